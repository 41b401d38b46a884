/- A part of the proof: abstract states and the rules for them. -/
import Derived.Test.YtpdbjkgnmjnebaaGreatDoorCoreB
import Derived.Attr
import Derived.Laws.StructEq
import Derived.ChangeKeysEq
import Derived.Below
import Derived.Laws.AppendOwn
import Derived.Lib.Join
import Derived.Lib.SplitLaws
import Derived.Lib.IndexAny
import Derived.Lib.IndexMore
import Derived.Deep.Draws
import Derived.RecoverIn
set_option linter.all false
open Go renaming Oper→aJ8,Code→aJ9,FuncId→aKa,Value→aKb,Program→aKc,World→aKd,LoopState→aKe,IntKind→aKf
open Option renaming bind_eq_some_iff→dM,bind_some→ep,map_some→eF,or_eq_some_iff→eK,map→eR
open Option.some renaming injEq→dN
open Prod.mk renaming injEq→dO
open Bool renaming and_eq_true→dQ
open List renaming getElem?_eq_getElem→dR,replicate→dU,getElem?_eq_some_iff→dV,take_left'→dW,drop_left'→dX,getElem?_set_self→dY,length_cons→eb,eq_nil_of_length_eq_zero→ed,map_congr_left→ek,getElem?_of_mem→ew,all_cons→ey,mem_cons→ez,getElem?_map→eA,isEmpty_nil→eB,getElem?_cons_zero→eD,getElem?_cons_succ→eE,length_map→eG,length_set→eH,nil_append→eJ,take_append_drop→eL,mem_of_getElem?→eM,range→eN,map_cons→eO,map_map→eP,range'→eQ
open Nat renaming le_refl→dZ,zero_le→eo,not_lt_zero→eI
open Array renaming replicate→ec,toList_append→eg
open List.cons renaming injEq→eu
noncomputable section
namespace Go.Abs
variable {W:Type}{r v x:AV}{j8:Array aJ8}{b:Bool}{y:aJ9}{E:Dw}{u:FrameMode}{f:aKa}{js:List (Int×aJ9)}{rows xD:List (List AV)}{args cs ds s ys:List AV}{base p rd Y:List Nat}{rs:List ResultVar}{tr:List Tr}{H H' Ys Ys' nw:List jT}{a g i j k l l0 low m n off:Nat}{τ:Nat->Nat}{U:Nat->aKb}{O O':Type}{o:aJ8}{c:Operand}{dst:Option Tmp}{P:aKc}{pr:Prop}{R W':Type}{h:aKb}{T:aKb->aKd->Array aKb->(Ending->aKd->Prop)->Prop}{w:aKd}{J J':jJ}{Q:nU->jJ->Prop}{C:qu}{V:vf->List jT->Prop}{lk lk':yN}{F:O->W->Option (O'×W')}
def ae8:Nat->aJ9->aJ9
 |0,.seq x _=>x
 |1,.seq _ y=>y
 |0,.cond _ x _=>x
 |1,.cond _ _ y=>y
 |0,.block _ x=>x
 |0,.loop x=>x
 |0,.scope x=>x
 |_,_=>.skip
def sub:List Nat->aJ9->aJ9
 |[],c=>c
 |d::p,c=>ae8 d (sub p c)
inductive Kt where
 |at (p:List Nat)
 |cut (p:List Nat)
 |j8 (j8:Array aJ8) (rest:List aJ8)
 |RG (p:List Nat) (rest:List aJ8) (j:Nat) (tr:List Tr)
 |tX (id:Nat)
 |lp (m:Nat) (p:List Nat)
 |lq (m:Nat) (p:List Nat)
 |rb
 |rd
def asw(J:jJ):Option jT->Option jJ
 |some (.loop k s .ready 0)=>some {J with heap:=J.heap.set 0 (.loop k s .busy 0)}
 |_=>none
def agq(J:jJ):Option jJ:=asw J J.heap[0]?
section

def asx:aJ9->Array aJ8
 |.region _ j8 _=>j8
 |_=> #[]
def tP(M:kG R)(p:List Nat):Array aJ8:=asx (sub p M.body)
def Aj(M:kG R):Kt->jJ->Option (nU×jJ)
 |.at p,J=>exec M (sub p M.body) p J
 |.cut p,J=>(M.cut p J).map fun J'=>(.normal,J')
 |.j8 j8 rest,J=>vS M j8 rest J
 |.RG p rest j tr,J=>KG M (tP M p) rest j tr J
 |.tX _,J=>some (.normal,J)
 |.lp m p,J=>(M.tv p J).bind (lqN (M.tv p) (exec M (sub (0::p) M.body) (0::p)) m)
 |.lq m p,J=>lqN (M.tv p) (exec M (sub (0::p) M.body) (0::p)) m J
 |.rb,J=>(agq J).map fun J'=>(.normal,J')
 |.rd,_=>none
def xw(M:kG R):List Kt->nU->jJ->Option R
 |[],.normal,J=>M.out J
 |[],.ret,J=>M.out J
 |[],.panic x,J=>M.pP x J
 |[],_,_=>none
 |.rd::_,e,J=>M.oB e J
 |.tX id::k,.exit id',J=>if id'=id then xw M k .normal J else xw M k (.exit id') J
 |x::k,.normal,J=>match Aj M x J with
  |some (e,J')=>xw M k e J'
  |none=>none
 |_::k,e,J=>xw M k e J
def run(M:kG R)(k:List Kt)(J:jJ):Option R:=xw M k .normal J
variable {M:kG R} {k:List Kt}
def aAF:run M [] J=M.out J:=rfl
def aAG{id:Nat}:run M (.tX id::k) J=run M k J:=rfl
theorem qv{x:Kt}(h:∀id,x≠ .tX id)(h2:x≠ .rd:=by simp):xw M (x::k) .normal J=match Aj M x J with
 |some (e,J')=>xw M k e J'
 |none=>none:=by
 cases x<;>first|rfl|exact absurd rfl (h _)|exact absurd rfl h2
def apE:run M (.j8 j8 []::k) J=run M k J:=rfl
def anP:run M (.RG p [] j tr::k) J=run M k J:=rfl
def wq(id:Nat):List Kt->Option (List Kt)
 |[]=>none
 |.tX id'::k=>if id=id' then some k else wq id k
 |.rd::_=>none
 |_::k=>wq id k
def aFT:Kt->Bool
 |.rd=>true
 |_=>false
def apF:List Kt->Bool
 |[]=>false
 |x::k=>aFT x||apF k
def Iv{id:Nat}:∀{k k':List Kt},wq id k=some k'->xw M k (.exit id) J=run M k' J
 |[],_,h=>by simp [wq]at h
 | .tX id'::k,k',h=>by
   simp only[wq]at h;split at h
   ·rename_i e;cases h;subst e;simp only[xw,jE];rfl
   ·rename_i e;simp only[xw,e,if_false];exact Iv h
 |.at _::k,k',h=>Iv (k:=k) (by simpa [wq] using h)
 |.cut _::k,k',h=>Iv (k:=k) (by simpa [wq] using h)
 |.j8 _ _::k,k',h=>Iv (k:=k) (by simpa [wq] using h)
 |.RG _ _ _ _::k,k',h=>Iv (k:=k) (by simpa [wq] using h)
 |.lp _ _::k,k',h=>Iv (k:=k) (by simpa [wq] using h)
 |.lq _ _::k,k',h=>Iv (k:=k) (by simpa [wq] using h)
 |.rb::k,k',h=>Iv (k:=k) (by simpa [wq] using h)
 |.rd::k,k',h=>by simp [wq]at h
def Iw{id:Nat}:∀{k:List Kt},wq id k=none->xw M k (.exit id) J=bif apF k then M.oB (.exit id) J else none
 |[],_=>rfl
 | .tX id'::k,h=>by
   simp only[wq]at h;split at h
   ·cases h
   ·rename_i e;simp only[xw,e,if_false];exact Iw h
 |.rb::k,h=>Iw (k:=k) (by simpa [wq] using h)
 |.rd::k,h=>rfl
 |.at _::k,h=>Iw (k:=k) (by simpa [wq] using h)
 |.cut _::k,h=>Iw (k:=k) (by simpa [wq] using h)
 |.j8 _ _::k,h=>Iw (k:=k) (by simpa [wq] using h)
 |.RG _ _ _ _::k,h=>Iw (k:=k) (by simpa [wq] using h)
 |.lp _ _::k,h=>Iw (k:=k) (by simpa [wq] using h)
 |.lq _ _::k,h=>Iw (k:=k) (by simpa [wq] using h)
def NH:∀{k:List Kt},xw M k .ret J=bif apF k then M.oB .ret J else M.out J
 |[]=>rfl
 |.rb::k=>NH (k:=k)
 |.rd::k=>rfl
 |.tX _::k=>NH (k:=k)
 |.at _::k=>NH (k:=k)
 |.cut _::k=>NH (k:=k)
 |.j8 _ _::k=>NH (k:=k)
 |.RG _ _ _ _::k=>NH (k:=k)
 |.lp _ _::k=>NH (k:=k)
 |.lq _ _::k=>NH (k:=k)
def anQ(M:kG R)(x:AV)(J:jJ)(k:List Kt):Option R:=bif apF k then M.oB (.panic x) J else M.pP x J
theorem CQ{x:AV}:∀{k:List Kt},xw M k (.panic x) J=anQ M x J k
 |[]=>rfl
 |.rb::k=>CQ (k:=k)
 |.rd::k=>rfl
 |.tX _::k=>CQ (k:=k)
 |.at _::k=>CQ (k:=k)
 |.cut _::k=>CQ (k:=k)
 |.j8 _ _::k=>CQ (k:=k)
 |.RG _ _ _ _::k=>CQ (k:=k)
 |.lp _ _::k=>CQ (k:=k)
 |.lq _ _::k=>CQ (k:=k)
def amD(M:kG R)(J:jJ)(id:Nat)(k:List Kt):Option (List Kt)->Option R
 |some k=>run M k J
 |none=>bif apF k then M.oB (.exit id) J else none
def asy{id:Nat}{k k':List Kt}:amD M J id k (some k')=run M k' J:=rfl
def asz{id:Nat}{k:List Kt}:amD M J id k none=bif apF k then M.oB (.exit id) J else none:=rfl
def ayb(M:kG R)(J:jJ)(k:List Kt):Option R:=bif apF k then M.oB .ret J else M.out J
def aju(M:kG R)(k:List Kt)(J:jJ):Option aJ9->Option R
 |none=>run M k J
 |some .ret=>ayb M J k
 |some (.exit id)=>amD M J id k (wq id k)
 |_=>none
def ajv(M:kG R)(k:List Kt)(J:jJ)(H':List jT):Option jT->Option R
 |some (.loop lk _ st uu)=>ny (st=stP (qy lk.js uu)) (aju M k {J with heap:=H'.set J.heap.length .xu} (qy lk.js uu))
 |_=>none
def aec(M:kG R)(k:List Kt)(J:jJ):Option (AV×List jT)->Option R
 |some (_,H')=>ajv M k J H' H'[J.heap.length]?
 |none=>none
def auP(M:kG R)(lk:yN)(k:List Kt)(J:jJ):AV->Option R
 |.func (.func f) first cap=>aec M k J (M.cl f (first++[.map J.heap.length]++cap) (J.heap++[.loop lk J.jV .ready 0]))
 |_=>none
def asB:aju M k J none=run M k J:=rfl
def avU:aju M k J (some .ret)=ayb M J k:=rfl
def asC{id:Nat}:aju M k J (some (.exit id))=amD M J id k (wq id k):=rfl
theorem apG{st:aKe}{uu:Int}:ajv M k J H' (some (.loop lk s st uu))=ny (st=stP (qy lk.js uu)) (aju M k {J with heap:=H'.set J.heap.length .xu} (qy lk.js uu)):=rfl
def apH:aec M k J (some (r,H'))=ajv M k J H' H'[J.heap.length]? :=rfl
def apI:aec M k J none=none:=rfl
def apJ{o:Option W}{f:W->Option (AV×List jT)}:aec M k J (o.bind f)=o.bind fun x=>aec M k J (f x):=by cases o<;>rfl
def asD{first cap:List AV}:auP M lk k J (.func (.func f) first cap)=aec M k J (M.cl f (first++[.map J.heap.length]++cap) (J.heap++[.loop lk J.jV .ready 0])):=rfl
def agr(M:kG R)(c:Operand)(p:List Nat)(k:List Kt)(J:jJ):AV->Option R
 |.bool b=>bif b then run M (.at (0::p)::k) (ajl c true J)else run M (.at (1::p)::k) (ajl c false J)
 |_=>none
def apK:agr M c p k J (.bool true)=run M (.at (0::p)::k) (ajl c true J):=rfl
def anR:agr M c p k J (.bool false)=run M (.at (1::p)::k) (ajl c false J):=rfl
def asE:agr M c p k J (.bool b)=bif b then run M (.at (0::p)::k) (ajl c true J)else run M (.at (1::p)::k) (ajl c false J):=rfl
def wV(M:kG R)(p:List Nat):Bool:=
 match sub p M.body with
 |.region _ j8 _=>Ji j8
 |_=>false
def aAH(js:List (Int×aJ9)):aJ9->yN
 |.rangeFunc _ ps aJU body=>⟨ps,aJU,body,js⟩
 |_=>⟨#[],.skip,.skip,[]⟩
def lkM(M:kG R)(p:List Nat):yN:=aAH (M.js p) (sub p M.body)
def Gg(M:kG R)(p:List Nat)(k:List Kt)(J:jJ):aJ9->Option R
 |.skip=>run M k J
 |.region _ j8 false=>run M (.j8 j8 j8.toList::k) J
 |.region _ j8 true=>ny (M.P.follows .mixedOrders=true/\wV M p=true) (run M (.RG p j8.toList 0 []::k) J)
 |.seq _ _=>run M (.at (0::p)::.cut (1::p)::.at (1::p)::k) J
 |.cond c _ _=>agr M c p k J (J.ev c)
 |.block id _=>run M (.at (0::p)::.tX id::k) J
 |.loop _=>run M (.lp M.n p::k) J
 |.exit id=>amD M J id k (wq id k)
 |.scope _=>run M (.at (0::p)::k) J
 |.label _=>run M k J
 |.ret=>ayb M J k
 |.rangeFunc g _ _ _=>auP M (lkM M p) k J (J.ev g)
 |_=>none
theorem avV{id:Nat}{e:nU}:xw M (.tX id::k) e J=match (match e with
 |.exit id'=>if id'=id then(nU.normal,J)else(.exit id',J)
 |e=>(e,J))with
 |(e,J)=>xw M k e J:=by
 cases e with
 |exit id'=>
  simp only[xw];split<;>rfl
 |_=>rfl
theorem apL{x:Kt}{e:nU}(h:∀id,x≠ .tX id)(he:e≠ .normal)(h2:x≠ .rd:=by simp):xw M (x::k) e J=xw M k e J:=by
 cases x<;>cases e<;>first|rfl|exact absurd rfl (h _)|exact absurd rfl he|exact absurd rfl h2
def aDL:run M (.at p::k) J=Gg M p k J (sub p M.body):=by
 show xw M (.at p::k) .normal J=_;rw[qv (by simp)];simp only[Aj];cases hc:sub p M.body with
 |skip=>rfl
 |region id j8 b=>
  cases b with
  |false=>
   simp only[exec,Gg];show _=xw M (.j8 j8 j8.toList::k) .normal J
   grind [qv,Aj]
  |true=>
   simp only[exec,Gg];show _=ny _ (xw M (.RG p j8.toList 0 []::k) .normal J)
   grind [qv,Aj,wV,tP,asx,ny]
 |seq x y=>
  simp only[exec,Gg];show _=xw M (.at (0::p)::.cut (1::p)::.at (1::p)::k) .normal J;rw[qv (by simp)];have h0:sub (0::p) M.body=x:=by simp [sub,hc,ae8]
  have h1:sub (1::p) M.body=y:=by simp [sub,hc,ae8]
  simp only[Aj,h0];cases hx:exec M x (0::p) J with
  |none=>rfl
  |some r=>
   obtain⟨e1,J1⟩:=r;cases e1 with
   |normal=>
    simp only;rw[qv (by simp)];simp only[Aj];cases aDM:M.cut (1::p) J1 with
    |none=>rfl
    |some J2=>
     grind [qv,Aj]
   |_=>
    simp_all [apL]
 |cond c x y=>
  simp only[exec,Gg];have h0:sub (0::p) M.body=x:=by simp [sub,hc,ae8]
  have h1:sub (1::p) M.body=y:=by simp [sub,hc,ae8]
  cases hv:J.ev c with
  |bool b=>
   simp only[agr];cases b with
   |true=>
    simp only[jy];show _=xw M (.at (0::p)::k) .normal _
    grind [qv,Aj]
   |false=>
    simp only[jz];show _=xw M (.at (1::p)::k) .normal _
    grind [qv,Aj]
  |_=>rfl
 |block id x=>
  simp only[exec,Gg];have h0:sub (0::p) M.body=x:=by simp [sub,hc,ae8]
  show _=xw M (.at (0::p)::.tX id::k) .normal J
  grind [qv,Aj,avV]
 |loop x=>
  simp only[exec,Gg];have h0:sub (0::p) M.body=x:=by simp [sub,hc,ae8]
  show _=xw M (.lp M.n p::k) .normal J
  grind [qv,Aj]
 |exit id=>
  simp only[exec,Gg];cases hb:wq id k with
  |none=>exact Iw hb
  |some k'=>exact Iv hb
 |scope x=>
  simp only[exec,Gg];have h0:sub (0::p) M.body=x:=by simp [sub,hc,ae8]
  show _=xw M (.at (0::p)::k) .normal J
  grind [qv,Aj]
 |label l=>rfl
 |ret=>exact NH
 |goto l=>rfl
 |rangeFunc g ps aJU body=>
  have hlk:lkM M p=⟨ps,aJU,body,M.js p⟩:=by simp only[lkM,hc,aAH]
  simp only[exec,Gg,hlk];cases hv:J.ev g with
  |func fn first cap=>
   cases fn with
   |func f=>
    simp only[ax5,auP];cases hcl:M.cl f (first++[.map J.heap.length]++cap) (J.heap++[.loop ⟨ps,aJU,body,M.js p⟩ J.jV .ready 0])with
    |none=>rfl
    |some q=>
     obtain⟨r,H'⟩:=q;simp only[aec];cases hH:H'[J.heap.length]? with
     |none=>rfl
     |some x=>
      cases x with
      |loop lk s st uu=>
       simp only[aAA,ajv];by_cases Xg:st=stP (qy lk.js uu)
       ·simp only[ny,if_pos Xg];generalize qy lk.js uu=pc;cases pc with
        |none=>rfl
        |some c=>
         cases c with
         |ret=>exact NH
         |exit id=>
          simp only[apz,aju];cases hb:wq id k with
          |none=>exact Iw hb
          |some k'=>exact Iv hb
         |_=>rfl
       ·simp only[ny,if_neg Xg]
      |_=>rfl
   |_=>rfl
  |_=>rfl
 |refuse s=>rfl
def asF:Gg M p k J .skip=run M k J:=rfl
def anS{id:Nat}:Gg M p k J (.region id j8 false)=run M (.j8 j8 j8.toList::k) J:=rfl
def asG{id:Nat}:Gg M p k J (.region id j8 true)=ny (M.P.follows .mixedOrders=true) (ny (wV M p=true) (run M (.RG p j8.toList 0 []::k) J)):=by
 rw[<-acm];rfl
def avW {x:aJ9}:Gg M p k J (.seq x y)=run M (.at (0::p)::.cut (1::p)::.at (1::p)::k) J:=rfl
def asH {x:aJ9}:Gg M p k J (.cond c x y)=agr M c p k J (J.ev c):=rfl
def apM{id:Nat}{x:aJ9}:Gg M p k J (.block id x)=run M (.at (0::p)::.tX id::k) J:=rfl
def asI{x:aJ9}:Gg M p k J (.loop x)=run M (.lp M.n p::k) J:=rfl
def asJ{id:Nat}:Gg M p k J (.exit id)=amD M J id k (wq id k):=rfl
def apN{g:Operand}{ps:Array Tmp}{aJU body:aJ9}:Gg M p k J (.rangeFunc g ps aJU body)=auP M (lkM M p) k J (J.ev g):=rfl
def apO{x:aJ9}:Gg M p k J (.scope x)=run M (.at (0::p)::k) J:=rfl
def apP:Gg M p k J (.label l)=run M k J:=rfl
def avX:Gg M p k J .ret=ayb M J k:=rfl
def aDN:run M (.rb::k) J=(agq J).bind fun J'=>run M k J':=by
 show xw M (.rb::k) .normal J=_;rw[qv (by simp)];simp only[Aj];cases agq J<;>rfl
def aDO:run M (.rd::k) J=M.oB .normal J:=rfl
def aiI:run M (.cut p::k) J=(M.cut p J).bind fun J'=>run M k J':=by
 show xw M (.cut p::k) .normal J=_;rw[qv (by simp)];simp only[Aj];cases M.cut p J<;>rfl
def aDP:run M (.lp m p::k) J=(M.tv p J).bind fun J'=>run M (.lq m p::k) J':=by
 show xw M (.lp m p::k) .normal J=_;rw[qv (by simp)];simp only[Aj];cases h:M.tv p J with
 |none=>rfl
 |some J'=>
  simp only[ep];show _=xw M (.lq m p::k) .normal J'
  grind [qv,Aj]
def NY:run M (.lq 0 p::k) J=none:=by
 show xw M (.lq 0 p::k) .normal J=_
 grind [qv,Aj,lqN]
theorem Gh:run M (.lq (m+1) p::k) J=run M (.at (0::p)::.lp m p::k) J:=by
 show xw M (.lq (m+1) p::k) .normal J=xw M (.at (0::p)::.lp m p::k) .normal J;rw[qv (by simp),qv (by simp)];simp only[Aj,lqN];cases hx:exec M (sub (0::p) M.body) (0::p) J with
 |none=>rfl
 |some r=>
  obtain⟨e1,J1⟩:=r;cases e1 with
  |normal=>
   grind [qv,Aj]
  |_=>
   grind [apL]
def tw(M:kG R)(j8:Array aJ8)(dst:Option Tmp)(rest:List aJ8)(k:List Kt)(J:jJ):Option vW->Option R
 |some e=>ny e.pre (run M (.j8 j8 rest::k) (J.app dst e))
 |none=>none
def Qt(M:kG R)(j8:Array aJ8)(dst:Option Tmp)(rest:List aJ8)(k:List Kt)(J:jJ):Option (AV×List jT)->Option R
 |some (r,H')=>run M (.j8 j8 rest::k) (jJ.put {J with heap:=H'} dst r)
 |none=>none
def Si(M:kG R)(j8:Array aJ8)(dst:Option Tmp)(rest:List aJ8)(k:List Kt)(J:jJ):Option (vf×List jT)->Option R
 |some (.ret r,H')=>run M (.j8 j8 rest::k) (jJ.put {J with heap:=H'} dst r)
 |some (.panic x,H')=>anQ M x {J with heap:=H'} k
 |none=>none
def auQ(M:kG R)(j8:Array aJ8)(dst:Option Tmp)(rest:List aJ8)(k:List Kt)(J:jJ):Option (aKa×List AV)->Option R
 |some p=>run M (.j8 j8 rest::k) (J.dfr p dst)
 |none=>none
def auR(M:kG R)(k:List Kt)(J:jJ):Option AV->Option R
 |some x=>anQ M x J k
 |none=>none
def wW(M:kG R)(j8:Array aJ8)(dst:Option Tmp)(rest:List aJ8)(k:List Kt)(J:jJ):Op->Option R
 |.defer c=>auQ M j8 dst rest k J (Hg J (.defer c))
 |.panic x=>auR M k J (Vv J (.panic x))
 |o=>tw M j8 dst rest k J (kQ M.P J o)
def amE(M:kG R)(j8:Array aJ8)(o:aJ8)(rest:List aJ8)(k:List Kt)(J:jJ):Option (Nat×List AV)->Option R
 |some (l,args)=>Qt M j8 o.dst rest k J (M.cy l args J.heap)
 |none=>wW M j8 o.dst rest k J o.op
def ajw(M:kG R)(j8:Array aJ8)(o:aJ8)(rest:List aJ8)(k:List Kt)(J:jJ):Option (aKa×List AV)->Option R
 |some (f,args)=>bif M.xb f then Si M j8 o.dst rest k J (M.cp f args J.heap)else Qt M j8 o.dst rest k J (M.cl f args J.heap)
 |none=>amE M j8 o rest k J (Hf J o.op)
def apQ(M:kG R)(j8:Array aJ8)(o:aJ8)(rest:List aJ8)(k:List Kt)(J:jJ):Option Bool->Option R
 |none=>none
 |some b=>bif b then ajw M j8 o rest k (wg j8 o true J) (nk (wg j8 o true J) o.op)else run M (.j8 j8 rest::k) ((wg j8 o false J).put o.dst (.sO undef))
def aAI {rest:List aJ8}:run M (.j8 j8 (o::rest)::k) J=apQ M j8 o rest k J (qx j8 o J):=by
 have hr:∀J,run M (.j8 j8 rest::k) J=match vS M j8 rest J with|some (e,J')=>xw M k e J'|none=>none:=by
  intro J;show xw M (.j8 j8 rest::k) .normal J=_
  grind [qv,Aj]
 have hl:run M (.j8 j8 (o::rest)::k) J=match vS M j8 (o::rest) J with|some (e,J')=>xw M k e J'|none=>none:=by
  show xw M (.j8 j8 (o::rest)::k) .normal J=_
  grind [qv,Aj]
 rw[hl];simp only[vS];cases hw:qx j8 o J with
 |none=>rfl
 |some b=>
  simp only[apQ];cases b with
  |false=>simp only[jz,hr]
  |true=>
   simp only[jy];cases hc:nk (wg j8 o true J) o.op with
   |some q=>
    grind [ajw,Si,CQ,Qt]
   |none=>
    simp only[ajw];cases hy:Hf (wg j8 o true J) o.op with
    |some q=>
     grind [amE,Qt]
    |none=>
     simp only[amE]
     have key:(∀c,o.op≠ .defer c)->(∀x,o.op≠ .panic x)->wW M j8 o.dst rest k (wg j8 o true J) o.op=tw M j8 o.dst rest k (wg j8 o true J) (kQ M.P (wg j8 o true J) o.op):=by
      simp_all [wW]
     by_cases h1:∃c,o.op=.defer c
     ·obtain⟨c,hc'⟩:=h1;simp only[hc',kQ,wW]
      grind [auQ,Vv]
     ·by_cases h2:∃x,o.op=.panic x
      ·obtain⟨x,hx⟩:=h2;simp only[hx,kQ,wW,Hg]
       grind [auR,CQ]
      ·rw[key (fun c hc'=>h1 ⟨c,hc'⟩) (fun x hx=>h2 ⟨x,hx⟩)];cases he:kQ M.P (wg j8 o true J) o.op with
       |none=>
        simp_all [tw,Hg,Vv]
       |some e=>
        grind [tw,ny]
def asK{rest:List aJ8}:apQ M j8 o rest k J (some true)=ajw M j8 o rest k (wg j8 o true J) (nk (wg j8 o true J) o.op):=rfl
def apR{rest:List aJ8}:apQ M j8 o rest k J (some false)=run M (.j8 j8 rest::k) ((wg j8 o false J).put o.dst (.sO undef)):=rfl
def avY{rest:List aJ8}:apQ M j8 o rest k J (some b)=bif b then ajw M j8 o rest k (wg j8 o true J) (nk (wg j8 o true J) o.op)else run M (.j8 j8 rest::k) ((wg j8 o false J).put o.dst (.sO undef)):=rfl
def asL{rest:List aJ8}:ajw M j8 o rest k J (some (f,args))=bif M.xb f then Si M j8 o.dst rest k J (M.cp f args J.heap)else Qt M j8 o.dst rest k J (M.cl f args J.heap):=rfl
def avZ{rest:List aJ8}:Si M j8 dst rest k J (some (.ret r,H'))=run M (.j8 j8 rest::k) (jJ.put {J with heap:=H'} dst r):=rfl
def av0{rest:List aJ8}:Si M j8 dst rest k J (some (.panic x,H'))=anQ M x {J with heap:=H'} k:=rfl
def asM{rest:List aJ8}:Si M j8 dst rest k J none=none:=rfl
def asO{rest:List aJ8}{o:Option W}{f:W->Option (vf×List jT)}:Si M j8 dst rest k J (o.bind f)=o.bind fun x=>Si M j8 dst rest k J (f x):=by
 cases o<;>rfl
def asQ{rest:List aJ8}{x y:Option (vf×List jT)}:Si M j8 dst rest k J (bif b then x else y)=bif b then Si M j8 dst rest k J x else Si M j8 dst rest k J y:=by cases b<;>rfl
def asR{rest:List aJ8}{p:aKa×List AV}:auQ M j8 dst rest k J (some p)=run M (.j8 j8 rest::k) (J.dfr p dst):=rfl
def asS:auR M k J (some x)=anQ M x J k:=rfl
def asU{rest:List aJ8}:ajw M j8 o rest k J none=amE M j8 o rest k J (Hf J o.op):=rfl
def asV{rest:List aJ8}:amE M j8 o rest k J (some (l,args))=Qt M j8 o.dst rest k J (M.cy l args J.heap):=rfl
def asW{rest:List aJ8}:amE M j8 o rest k J none=wW M j8 o.dst rest k J o.op:=rfl
def asX{rest:List aJ8}:tw M j8 dst rest k J none=none:=rfl
def asY{rest:List aJ8}{up:List (Nat×jT)}{p:Prop}:
 tw M j8 dst rest k J (some {val:=x,rd,up,nw,pre:=p})=ny p (run M (.j8 j8 rest::k) {J.put dst x with heap:=mh J.heap up++nw}):=rfl
def asZ{rest:List aJ8}{o:Option W}{f:W->Option vW}:tw M j8 dst rest k J (o.bind f)=o.bind fun x=>tw M j8 dst rest k J (f x):=by
 cases o<;>rfl
def av1{rest:List aJ8}{p:Prop}[Decidable p]{a b:Option vW}:tw M j8 dst rest k J (if p then a else b)=bif decide p then tw M j8 dst rest k J a else tw M j8 dst rest k J b:=by
 by_cases h:p<;>simp [h]
def as0{rest:List aJ8}:Qt M j8 dst rest k J (some (r,H'))=run M (.j8 j8 rest::k) (jJ.put {J with heap:=H'} dst r):=rfl
theorem ajx{rest:List aJ8}:Qt M j8 dst rest k J none=none:=rfl
def as1{rest:List aJ8}{o:Option W}{f:W->Option (AV×List jT)}:Qt M j8 dst rest k J (o.bind f)=o.bind fun x=>Qt M j8 dst rest k J (f x):=by
 cases o<;>rfl
def Xz(M:kG R)(p:List Nat)(tr:List Tr)(j:Nat)(e:vW):Prop:=Xx (tP M p) tr j e
def RH(M:kG R)(p:List Nat)(i j:Nat):Bool:=ahS (tP M p) i j
def as2{e:vW}:Xz M p tr j e=(e.idle=true\/(tr.all fun t=>CN t e||RH M p t.j j)=true):=rfl
def Ak(M:kG R)(p:List Nat)(dst:Option Tmp)(rest:List aJ8)(j:Nat)(tr:List Tr)(k:List Kt)(J:jJ):Option vW->Option R
 |some e=>ny (e.pre/\Xz M p tr j e) (run M (.RG p rest (j+1) (M2 tr j J.heap.length e)::k) (J.app dst e))
 |none=>none
def aed(M:kG R)(p:List Nat)(dst:Option Tmp)(rest:List aJ8)(j:Nat)(tr:List Tr)(k:List Kt)(J:jJ):Option AV->Option R
 |some r=>run M (.RG p rest (j+1) tr::k) (J.put dst r)
 |none=>none
def aaD(M:kG R)(p:List Nat)(c:Nat)(rest:List aJ8)(j:Nat)(J:jJ):Prop:=VB M.P (tP M p) c rest j J
def Un(M:kG R)(p:List Nat)(c:Nat):Bool:=aps (tP M p) c
def OZ(M:kG R)(p:List Nat)(dst:Option Tmp)(rest:List aJ8)(j:Nat)(tr:List Tr)(k:List Kt)(J:jJ):Option CO->Option R
 |some (.ret e)=>Ak M p dst rest j tr k J (some e)
 |some (.pan x H')=>ny (Un M p j=true\/(Qs tr=true/\aaD M p j rest (j+1) (J.put dst (.sO undef)))) (anQ M x {J with jV:=Xw (tP M p) J.jV,heap:=H'} k)
 |none=>none
def aee(M:kG R)(p:List Nat)(o:aJ8)(rest:List aJ8)(j:Nat)(tr:List Tr)(k:List Kt)(J:jJ):Option (aKa×List AV)->Option R
 |some (f,args)=>bif M.xy f then OZ M p o.dst rest j tr k J (M.co f args J.heap)else bif M.xF f then Ak M p o.dst rest j tr k J (M.ce f args J.heap)else aed M p o.dst rest j tr k J (M.cd f args)
 |none=>Ak M p o.dst rest j tr k J (kQ M.P J o.op)
def ajy(M:kG R)(p:List Nat)(o:aJ8)(rest:List aJ8)(j:Nat)(tr:List Tr)(k:List Kt)(J:jJ):Option Bool->Option R
 |none=>none
 |some b=>bif b then aee M p o rest j tr k (wg (tP M p) o true J) (nk (wg (tP M p) o true J) o.op)else run M (.RG p rest (j+1) tr::k) ((wg (tP M p) o false J).put o.dst (.sO undef))
def ayc{rest:List aJ8}:run M (.RG p (o::rest) j tr::k) J=ajy M p o rest j tr k J (qx (tP M p) o J):=by
 have hr:∀j tr J,run M (.RG p rest j tr::k) J=match KG M (tP M p) rest j tr J with|some (e,J')=>xw M k e J'|none=>none:=by
  intro j tr J;show xw M (.RG p rest j tr::k) .normal J=_
  grind [qv,Aj]
 have hl:run M (.RG p (o::rest) j tr::k) J=match KG M (tP M p) (o::rest) j tr J with|some (e,J')=>xw M k e J'|none=>none:=by
  show xw M (.RG p (o::rest) j tr::k) .normal J=_
  grind [qv,Aj]
 rw[hl];simp only[KG];cases hw:qx (tP M p) o J with
 |none=>rfl
 |some b=>
  simp only[ajy];cases b with
  |false=>simp only[jz,hr]
  |true=>
   simp only[jy];cases hc:nk (wg (tP M p) o true J) o.op with
   |some q=>
    obtain⟨f,args⟩:=q;simp only[aee];cases hic:M.xy f with
    |true=>
     grind [OZ,Ak,Xz,ny,aaD,Un,CQ]
    |false=>
    grind [Ak,Xz,ny,aed]
   |none=>
    grind [aee,Ak,Xz,ny]
def apS{rest:List aJ8}:ajy M p o rest j tr k J (some true)=aee M p o rest j tr k (wg (tP M p) o true J) (nk (wg (tP M p) o true J) o.op):=rfl
def anT{rest:List aJ8}:ajy M p o rest j tr k J (some false)=run M (.RG p rest (j+1) tr::k) ((wg (tP M p) o false J).put o.dst (.sO undef)):=rfl
def as3{rest:List aJ8}:ajy M p o rest j tr k J (some b)=bif b then aee M p o rest j tr k (wg (tP M p) o true J) (nk (wg (tP M p) o true J) o.op)else run M (.RG p rest (j+1) tr::k) ((wg (tP M p) o false J).put o.dst (.sO undef)):=rfl
def apT{rest:List aJ8}:aee M p o rest j tr k J (some (f,args))=bif M.xy f then OZ M p o.dst rest j tr k J (M.co f args J.heap)else bif M.xF f then Ak M p o.dst rest j tr k J (M.ce f args J.heap)else aed M p o.dst rest j tr k J (M.cd f args):=rfl
def as4{rest:List aJ8}{e:vW}:OZ M p dst rest j tr k J (some (.ret e))=Ak M p dst rest j tr k J (some e):=rfl
def as5{rest:List aJ8}:OZ M p dst rest j tr k J (some (.pan x H'))=bif Un M p j then anQ M x {J with jV:=Xw (tP M p) J.jV,heap:=H'} k else ny (Qs tr=true) (ny (aaD M p j rest (j+1) (J.put dst (.sO undef))) (anQ M x {J with jV:=Xw (tP M p) J.jV,heap:=H'} k)):=by
 grind [OZ,ny]
def apU{rest:List aJ8}:OZ M p dst rest j tr k J none=none:=rfl
def apV{rest:List aJ8}{o:Option W}{f:W->Option CO}:OZ M p dst rest j tr k J (o.bind f)=o.bind fun x=>OZ M p dst rest j tr k J (f x):=by
 cases o<;>rfl
def av2 {c:Nat}:aaD M p c [] j J=True:=rfl
def L2(M:kG R)(p:List Nat)(c j:Nat):Bool:=pW (tP M p) c j
def as6 {c:Nat}{rest:List aJ8}(h:L2 M p c j=true):aaD M p c (o::rest) j J=aaD M p c rest (j+1) (J.put o.dst (.sO undef)):=by
 unfold L2 at h;show VB M.P (tP M p) c (o::rest) j J=VB M.P (tP M p) c rest (j+1) (J.put o.dst (.sO undef));simp only[VB,h]
def apW{rest:List aJ8}:Ak M p dst rest j tr k J none=none:=rfl
def apX{rest:List aJ8}{up:List (Nat×jT)}:
 Ak M p dst rest j tr k J (some {val:=x,rd,up,nw,pre:=pr})=ny pr (ny (Xz M p tr j {val:=x,rd,up,nw,pre:=pr}) (run M (.RG p rest (j+1) (M2 tr j J.heap.length {val:=x,rd,up,nw,pre:=pr})::k) {J.put dst x with heap:=mh J.heap up++nw})):=by
 rw[<-acm];rfl
def apY{rest:List aJ8}{o:Option W}{f:W->Option vW}:Ak M p dst rest j tr k J (o.bind f)=o.bind fun x=>Ak M p dst rest j tr k J (f x):=by
 cases o<;>rfl
def as7{rest:List aJ8}[Decidable pr]{a b:Option vW}:Ak M p dst rest j tr k J (if pr then a else b)=bif decide pr then Ak M p dst rest j tr k J a else Ak M p dst rest j tr k J b:=by
 by_cases h:pr<;>simp [h]
def apZ{rest:List aJ8}:aed M p dst rest j tr k J (some r)=run M (.RG p rest (j+1) tr::k) (J.put dst r):=rfl
def ap0{rest:List aJ8}:aed M p dst rest j tr k J none=none:=rfl
def ap1{rest:List aJ8}{o:Option W}{f:W->Option AV}:aed M p dst rest j tr k J (o.bind f)=o.bind fun x=>aed M p dst rest j tr k J (f x):=by
 cases o<;>rfl
def XA(G:Hh M){r:R}(h:run M [.at []] J=some r)(hQ:∀J',M.out J'=some r->Q .normal J'/\Q .ret J')(hP:∀x J',M.pP x J'=some r->Q (.panic x) J'):awp M.P M.body Q J:=by
 have h':xw M [.at []] .normal J=some r:=h;rw[qv (by simp)]at h';simp only[Aj,sub]at h';cases hx:exec M M.body [] J with
 |none=>simp only[hx]at h';cases h'
 |some q=>
  obtain⟨e,J'⟩:=q;simp only[hx]at h';refine Ai G _ [] Q J e J' hx ?_;cases e with
  |normal=>exact(hQ J' h').1
  |ret=>exact(hQ J' h').2
  |panic x=>exact hP x J' h'
  |_=>simp only[xw]at h';cases h'
def av3(G:Hh M){r:R}(h:run M [.at []] J=some r)(hQ:∀J',M.out J'=some r->Q .normal J'/\Q .ret J')(hP:∀x J',M.pP x J'=none):awp M.P M.body Q J:=
 XA G h hQ fun x J' hx=>by rw[hP x J']at hx;cases hx
def ajz:Op->Bool
 |.call {callee:=.value _,..}=>false
 |.panic _=>false
 |_=>true
def ajA:aJ9->Bool
 |.skip=>true
 |.region _ j8 _=>j8.toList.all fun o=>ajz o.op
 |.seq x y=>ajA x&&ajA y
 |_=>false
theorem aaE{o:Op}(h:ajz o=true):nk J o=none:=by
 unfold nk;split
 ·cases h
 ·rfl
theorem ap3{o:Op}(h:ajz o=true):Vv J o=none:=by
 unfold Vv;split
 ·cases h
 ·rfl
def XB{M:kG R}{j8:Array aJ8}:∀(rest:List aJ8)(J:jJ)(e:nU)(J':jJ),rest.all (fun o=>ajz o.op)=true->vS M j8 rest J=some (e,J')->e=.normal
 |[],J,e,J',_,h=>by grind [vS]
 |o::rest,J,e,J',hc,h=>by
  rw[ey,dQ]at hc;have ih:=fun J=>XB (M:=M) (j8:=j8) rest J e J' hc.2
  simp only[vS]at h
  grind [aaE,ap3,mg]
def ajB{M:kG R}{j8:Array aJ8}:∀(rest:List aJ8)(j:Nat)(tr:List Tr)(J:jJ)(e:nU)(J':jJ),rest.all (fun o=>ajz o.op)=true->KG M j8 rest j tr J=some (e,J')->e=.normal
 |[],_,_,J,e,J',_,h=>by grind [KG]
 |o::rest,j,tr,J,e,J',hc,h=>by
  rw[ey,dQ]at hc;have ih:=fun tr J=>ajB (M:=M) (j8:=j8) rest (j+1) tr J e J' hc.2
  grind [KG,aaE,mg]
def ags{M:kG R}: ∀(c:aJ9)(p:List Nat)(J:jJ)(e:nU)(J':jJ),ajA c=true->exec M c p J=some (e,J')->e= .normal
 |.skip,_,_,e,_,_,h=>by grind [exec]
 | .region _ j8 false,_,_,e,_,hp,h=>by
   simp only[exec]at h;exact XB _ _ _ _ hp h
 | .region _ j8 true,_,_,e,_,hp,h=>by
   simp only[exec]at h;rw[mg]at h;exact ajB _ _ _ _ _ _ hp h.2
 | .seq x y,p,J,e,J',hp,h=>by
   simp only[ajA,dQ]at hp;simp only[exec]at h;cases hx:exec M x (0::p) J with
   |none=>simp only[hx]at h;cases h
   |some r=>
    obtain⟨e1,J1⟩:=r;have:=ags x _ _ _ _ hp.1 hx;subst this;simp only[hx]at h;cases hc:M.cut (1::p) J1 with
    |none=>grind
    |some J2=>
     simp only[hc,ep]at h;exact ags y _ _ _ _ hp.2 h
 |.cond _ _ _,_,_,_,_,hp,_=>by cases hp
 |.block _ _,_,_,_,_,hp,_=>by cases hp
 |.loop _,_,_,_,_,hp,_=>by cases hp
 |.exit _,_,_,_,_,hp,_=>by cases hp
 |.scope _,_,_,_,_,hp,_=>by cases hp
 |.label _,_,_,_,_,hp,_=>by cases hp
 |.ret,_,_,_,_,hp,_=>by cases hp
 |.goto _,_,_,_,_,hp,_=>by cases hp
 |.rangeFunc _ _ _ _,_,_,_,_,hp,_=>by cases hp
 |.refuse _,_,_,_,_,hp,_=>by cases hp
def auS {jV:List AV}{r:R}(G:Hh M)(Ma:M.body= .seq lk.assign lk.body)(hp:ajA lk.assign=true)(hn:yd lk.assign=true/\yd lk.body=true)
 (hH:H[0]? =some (.loop lk jV .ready 0)) (G9:w5 H.length args) (H7:∀x∈H,rJ H.length x) (ahT:∀e J,M.oB e J=some r->auO V e J)
 (h:run M [.at [0],.rb,.at [1],.rd] {jV:=VD jV lk.ps.toList args,heap:=H,low:=H.length}=some r):FnT M.P (aau M.P) args H V:=by
 refine anO hH G9 H7 hn ?_;have h0:sub [0] M.body=lk.assign:=by rw[Ma];rfl
 have h1:sub [1] M.body=lk.body:=by rw[Ma];rfl
 have h':xw M [.at [0],.rb,.at [1],.rd] .normal {jV:=VD jV lk.ps.toList args,heap:=H,low:=H.length}=some r:=h;rw[qv (by simp)]at h';simp only[Aj,h0]at h';cases hx:exec M lk.assign [0] {jV:=VD jV lk.ps.toList args,heap:=H,low:=H.length} with
 |none=>simp only[hx]at h';cases h'
 |some q=>
  obtain⟨e,J'⟩:=q;have:=ags _ _ _ _ _ hp hx;subst this;simp only[hx]at h';refine Ai G _ [0] _ _ .normal J' hx ?_;rw[qv (by simp)]at h';simp only[Aj]at h';cases hb:agq J' with
  |none=>grind
  |some J2=>
   simp only[hb,eF]at h';unfold agq asw at hb;split at hb
   ·rename_i k s hk;simp only[dN]at hb;subst hb;refine⟨k,s,hk,?_⟩;rw[qv (by simp)]at h';simp only[Aj,h1]at h';cases RC:exec M lk.body [1] {J' with heap:=J'.heap.set 0 (.loop k s .busy 0)} with
    |none=>simp only[RC]at h';cases h'
    |some q=>
     obtain⟨e2,J3⟩:=q;simp only[RC]at h';refine Ai G _ [1] _ _ e2 J3 RC ?_;exact ahT e2 J3 (by cases e2<;>exact h')
   ·cases hb
def aiJ{fn:Func}{V:AV->Prop}{r:R}(G:Hh M)(hf:M.P.funcs[f]? =some fn)(hb:fn.body=some M.body)(sA:(fn.name != "runtime.NumGoroutine")=true)(G9:w5 0 args)
 (hn:fn.ntmps=n) (L1:fn.results=rs.toArray) (ahT:∀J,M.out J=some r->J.df=[]/\avS V J.heap (Pj M.P J rs))
 (h:run M [.at []] {jV:=args++dU (n-args.length) .any,heap:=[]}=some r) (hP:∀x J',M.pP x J'=none:=by intros;rfl):KD M.P f args V:=by
 refine apx hf hb sA G9 ?_;rw[L1,hn];refine av3 G h (fun J' hs=>?_) hP;have:=ahT J' hs;exact⟨this,this⟩
end
section lists
variable {γ:Type}
def r6(f:O->Option W):List O->Option (List W)
 |[]=>some []
 |x::xs=>(f x).bind fun y=>(r6 f xs).bind fun ys=>some (y::ys)
def ayd(f:O->Option W):r6 f []=some []:=rfl
def av4(f:O->Option W)(x:O)(xs:List O):r6 f (x::xs)=(f x).bind fun y=>(r6 f xs).bind fun ys=>some (y::ys):=rfl
def ahp(f:O->Option W):∀a b:List O,r6 f (a++b)=(r6 f a).bind fun x=>(r6 f b).bind fun y=>some (x++y)
 |[],b=>by simp_all [r6]
 |x::a,b=>by
  simp only[List.cons_append,r6,ahp f a b];cases f x<;>simp;cases r6 f a<;>simp;cases r6 f b<;>simp
def ajC{f:O->Option W}{g:W->O}(h:∀x,f (g x)=some x):∀xs:List W,r6 f (xs.map g)=some xs
 |[]=>rfl
 |x::xs=>by simp [r6,h x,ajC h xs]
def mp(f:W->O)(xs:List W):List O:=xs.map f
theorem qD(f:W->O)(xs:List W):mp f xs=xs.map f:=rfl
attribute [irreducible] mp
theorem M3(f:W->O)(xs:List W):(mp f xs).length=xs.length:=by rw[qD,eG]
def aAJ(f:W->O)(xs:List W)(n:Nat):(mp f xs).take n=mp f (xs.take n):=by rw[qD,qD,List.map_take]
def aAK(f:W->O)(xs:List W)(n:Nat):(mp f xs).drop n=mp f (xs.drop n):=by rw[qD,qD,List.map_drop]
def as8(f:W->O)(xs:List W):(mp f xs).isEmpty=xs.isEmpty:=by rw[qD];cases xs<;>rfl
def Jb{f:O->Option W}{g:W->O}(h:∀x,f (g x)=some x)(xs:List W):r6 f (mp g xs)=some xs:=by rw[qD];exact ajC h xs
def av5{f:W->O}{g:O->Option γ}{o:Option W}:(eR f o).bind g=o.bind fun x=>g (f x):=by cases o<;>rfl
def as9{f:W->Option O}{g:O->Option γ}{o:Option W}:(o.bind f).bind g=o.bind fun x=>(f x).bind g:=by cases o<;>rfl
def av6{f:W->Option O}{x y:Option W}:(bif b then x else y).bind f=bif b then x.bind f else y.bind f:=by cases b<;>rfl
def ata{f:W->Option O}:(none:Option W).bind f=none:=rfl
def yD{f:W->Option O}{x:W}:(some x).bind f=f x:=rfl
def Ab(xs:List W)(n:Int):Option W:=if 0<=n then xs[n.toNat]? else none
def aAL{f:W->O}{xs:List W}{n:Int}:Ab (mp f xs) n=eR f (Ab xs n):=by
 rw[qD];unfold Ab;split<;>simp
def av7{x:W}{xs:List W}:Ab (x::xs) 0=some x:=rfl
def aye{x y:W}{xs:List W}:Ab (x::y::xs) 1=some y:=rfl
def ayf{x y z:W}{xs:List W}:Ab (x::y::z::xs) 2=some z:=rfl
end lists
def vm:List AV->List AV->Prop
 |[],ys=>ys=[]
 |x::xs,ys=>∃y zs,ys=y::zs/\LY x y/\vm xs zs
theorem vm.nil:vm [] []:=rfl
theorem vm.cons {y:AV}{xs:List AV}(h:LY x y)(hs:vm xs ys):vm (x::xs) (y::ys):=⟨y,ys,rfl,h,hs⟩
def vm.aDQ:∀{xs ys:List AV},vm xs ys->q8 xs ys
 |[],_,rfl=>q8.nil
 |_::_,_,⟨_,_,rfl,h,hs⟩=>q8.cons h (vm.aDQ hs)
def vm.av8:∀{xs ys:List AV},vm xs ys->agh xs ys
 |[],_,rfl=>agh.nil
 |_::_,_,⟨_,_,rfl,h,hs⟩=>agh.cons h (vm.av8 hs)
theorem vm.length:∀{xs ys:List AV},vm xs ys->xs.length=ys.length
 |[],_,rfl=>rfl
 |_::_,_,⟨_,_,rfl,_,hs⟩=>by simp [vm.length hs]
theorem vm.append:∀{xs ys us vs:List AV},vm xs ys->vm us vs->vm (xs++us) (ys++vs)
 |[],_,_,_,rfl,h=>h
 |_::_,_,_,_,⟨y,zs,rfl,h,hs⟩,h2=>⟨y,zs++_,rfl,h,vm.append hs h2⟩
theorem n7.nil:n7 H n [] []:=rfl
theorem n7.cons {y:AV}{xs:List AV}(h:Co1 H n x y)(hs:n7 H n xs ys):n7 H n (x::xs) (y::ys):=⟨y,ys,rfl,h,hs⟩
theorem n7.append:∀{xs ys us vs:List AV},n7 H n xs ys->n7 H n us vs->n7 H n (xs++us) (ys++vs)
 |[],_,_,_,rfl,h=>h
 |_::_,_,_,_,⟨y,zs,rfl,h,hs⟩,h2=>⟨y,zs++_,rfl,h,n7.append hs h2⟩
def Co1.oW {y:AV}(h:Co1 [] n x y):LY x y:=by
 rcases h with h|⟨l,m,sz,rows,_,hl,_⟩
 ·exact h.1
 ·simp at hl
def n7.oW:∀{xs ys:List AV},n7 [] n xs ys->vm xs ys
 |[],_,rfl=>rfl
 |_::_,_,⟨y,zs,rfl,h,hs⟩=>⟨y,zs,rfl,h.oW,n7.oW hs⟩
def Co.oW {y:AV}(h:Co [] n x y):LY x y:=by
 rcases h with h|⟨cs,ds,rfl,rfl,h⟩
 ·exact h.oW
 ·exact LY.agg h.oW.aDQ
def n7.ayg:∀{xs ys:List AV},n7 H n xs ys->EG H n xs ys
 |[],_,rfl=>rfl
 |_::_,_,⟨y,zs,rfl,h,hs⟩=>⟨y,zs,rfl,.inl h,n7.ayg hs⟩
structure Row(W:Type) where
 enc:W->List AV
 mo:List AV->Option W
 sz:Nat
 ok:∀r x,mo r=some x->vm r (enc x)
 nb:∀n x,w5 n (enc x)
structure Ty(W:Type) where
 enc:W->AV
 mo:List jT->AV->Option W
 ok:∀H n v x,mo H v=some x->Co H n v (enc x)
 nb:∀n x,(enc x).nb n
section rows

def Jk(sz k:Nat)(rows:List (List AV)):Bool:=sz==k||rows.isEmpty
def dL(r:Row W)(H:List jT):AV->Option (List W)
 |.kW _ sz rows=>bif Jk sz r.sz rows then r6 r.mo rows else none
 | .lN l n=>match H[l]? with
   |some (.lN true sz rows)=>bif (rows.length==n)&&Jk sz r.sz rows then r6 r.mo rows else none
   |_=>none
 |_=>none
def M4{r:Row W}:∀{rows:List (List AV)}{xs:List W},r6 r.mo rows=some xs->OY rows (mp r.enc xs)/\I9 rows (mp r.enc xs)
 |[],xs,h=>by
  simp only[r6,dN]at h;subst h;rw[qD];exact⟨OY.nil,rfl⟩
 |c::rows,xs,h=>by
  simp only[r6,dM,dN]at h;obtain⟨y,hy,ys,hys,rfl⟩:=h;obtain⟨h1,h2⟩:=M4 hys;have h3:=r.ok _ _ hy;rw[qD]at h1 h2 ⊢;exact⟨OY.cons h3.av8 h1,_,_,rfl,⟨h3.length,h3.aDQ⟩,h2⟩
theorem Al{r:Row W}{n:Nat}:∀xs:List W,NC n (mp r.enc xs)
 |[]=>by rw[qD];trivial
 |x::xs=>by have:=Al (r:=r) (n:=n) xs;rw[qD]at this ⊢;exact⟨r.nb n x,this⟩
def XC{t:Bool}{sz:Nat}(h:Jk sz k rows=true)(hs:OY rows xD):LY (.kW t sz rows) (.kW false k xD):=by
 unfold Jk at h;simp only[Bool.or_eq_true,beq_iff_eq,List.isEmpty_iff]at h;rcases h with rfl|rfl
 ·exact LY.kW hs
 ·have:xD=[]:=ed hs.1.symm;subst this;exact LY.empty _ _ _
theorem Mb{r:Row W}{xs:List W}(h:dL r H v=some xs):Co1 H n v (.kW false r.sz (mp r.enc xs)):=by
 unfold dL at h;split at h
 ·rename_i t sz rows;cases hs:Jk sz r.sz rows with
  |false=>simp [hs]at h
  |true=>
   simp only[hs,jy]at h;exact .inl ⟨XC hs (M4 h).1,Al xs⟩
 ·rename_i l m;split at h
  ·rename_i sz rows hl;cases hs:Jk sz r.sz rows with
   |false=>simp [hs]at h
   |true=>
    cases hm:(rows.length==m)with
    |false=>simp [hm]at h
    |true=>
     simp only[hs,hm,Bool.and_self,jy]at h;exact .inr ⟨l,m,sz,rows,rfl,hl,by simpa using hm,XC hs (M4 h).1,Al xs⟩
  ·cases h
 ·cases h
def l8(r:Row W):Ty (List W) where
 enc xs:=.kW false r.sz (mp r.enc xs)
 mo:=dL r
 ok _ _ _ _ h:=.inl (Mb h)
 nb _ xs:=Al xs
def aAM{r:Row W}{xs:List W}:(l8 r).enc xs=.kW false r.sz (mp r.enc xs):=rfl
def aAN{r:Row W}:(l8 r).mo H v=dL r H v:=rfl
end rows
def sb(s:List UInt8):ByteArray:=⟨s.toArray⟩
abbrev Str:=List UInt8
variable {xs:List (Str×Bool)}
def dI(k:aKf):AV->Option Int
 |.int k' n=>if k'=k then some n else none
 |_=>none
def dB:AV->Option Bool
 |.bool b=>some b
 |_=>none
def dS:AV->Option Str
 |.str b=>some b.data.toList
 |_=>none
theorem yP{k:aKf}{x:Int}(h:dI k v=some x):Co1 H n v (.int k x):=by
 unfold dI at h;split at h
 ·split at h
  ·cases h;rename_i e;subst e;exact Co1.sub (LY.refl _) trivial
  ·cases h
 ·cases h
theorem amF{x:Bool}(h:dB v=some x):Co1 H n v (.bool x):=by
 unfold dB at h;split at h
 ·cases h;exact Co1.sub (LY.refl _) trivial
 ·cases h
theorem anU(b:ByteArray):sb b.data.toList=b:=by
 cases b;rfl
theorem VE{x:Str}(h:dS v=some x):Co1 H n v (.str (sb x)):=by
 unfold dS at h;split at h
 ·cases h;rw[anU];exact Co1.sub (LY.refl _) trivial
 ·cases h
def aaF(s:Str):dS (.str (sb s))=some s:=rfl
def Qu(k:aKf)(n:Int):dI k (.int k n)=some n:=by simp [dI]
def KH(b:Bool):dB (.bool b)=some b:=rfl
def ayh:dS (.str ByteArray.empty)=some []:=rfl
def av9:dS (.str ⟨#[]⟩)=some []:=rfl
def mP(k:aKf):Ty Int:=⟨.int k,fun _=>dI k,fun _ _ _ _ h=>.inl (yP h),fun _ _=>trivial⟩
def nD:Ty Bool:=⟨.bool,fun _=>dB,fun _ _ _ _ h=>.inl (amF h),fun _ _=>trivial⟩
def mq:Ty Str:=⟨fun s=>.str (sb s),fun _=>dS,fun _ _ _ _ h=>.inl (VE h),fun _ _=>trivial⟩
def aAO{k:aKf}{x:Int}:(mP k).enc x=.int k x:=rfl
def aAP{k:aKf}:(mP k).mo H v=dI k v:=rfl
def aAQ{x:Bool}:nD.enc x=.bool x:=rfl
def aAR:nD.mo H v=dB v:=rfl
def aAS{x:Str}:mq.enc x=.str (sb x):=rfl
def aAT:mq.mo H v=dS v:=rfl
def dF(f:aKa):AV->Option Unit
 |.func (.func g) [] []=>if g=f then some ()else none
 |_=>none
def aDR(f:aKa):dF f (.func (.func f) [] [])=some ():=by simp [dF]
def tyF(f:aKa):Ty Unit where
 enc _:=.func (.func f) [] []
 mo _:=dF f
 ok H n v x h:=by
  unfold dF at h;split at h
  ·split at h
   ·rename_i e;subst e;exact Co.same ⟨trivial,trivial⟩
   ·cases h
  ·cases h
 nb _ _:=⟨trivial,trivial⟩
def aAU{x:Unit}:(tyF f).enc x=.func (.func f) [] []:=rfl
def aAV:(tyF f).mo H v=dF f v:=rfl
def aaG(n:Int):List AV:=[.int .i64 n]
def nY(s:Str):List AV:=[.str (sb s)]
def ae9(b:Bool):List AV:=[.bool b]
def ajD(n:Int):List AV:=[.int .u8 n]
def dI1(k:aKf):List AV->Option Int
 |[c]=>dI k c
 |_=>none
def dB1:List AV->Option Bool
 |[c]=>dB c
 |_=>none
def dS1:List AV->Option Str
 |[c]=>dS c
 |_=>none
def aDS:Row Int where
 enc:=aaG
 mo:=dI1 .i64
 sz:=1
 ok r x h:=by
  unfold dI1 at h;split at h
  ·exact vm.cons (yP (H:=[]) (n:=0) h).oW vm.nil
  ·cases h
 nb _ _:=⟨trivial,trivial⟩
def aDT:Row Int where
 enc:=ajD
 mo:=dI1 .u8
 sz:=1
 ok r x h:=by
  unfold dI1 at h;split at h
  ·exact vm.cons (yP (H:=[]) (n:=0) h).oW vm.nil
  ·cases h
 nb _ _:=⟨trivial,trivial⟩
def aDU:Row Bool where
 enc:=ae9
 mo:=dB1
 sz:=1
 ok r x h:=by
  unfold dB1 at h;split at h
  ·exact vm.cons (amF (H:=[]) (n:=0) h).oW vm.nil
  ·cases h
 nb _ _:=⟨trivial,trivial⟩
def mc:Row Str where
 enc:=nY
 mo:=dS1
 sz:=1
 ok r x h:=by
  unfold dS1 at h;split at h
  ·exact vm.cons (VE (H:=[]) (n:=0) h).oW vm.nil
  ·cases h
 nb _ _:=⟨trivial,trivial⟩
def aDV:aDS.enc=aaG/\aDS.mo=dI1 .i64/\aDS.sz=1:=⟨rfl,rfl,rfl⟩
def aDW:aDT.enc=ajD/\aDT.mo=dI1 .u8/\aDT.sz=1:=⟨rfl,rfl,rfl⟩
def aDX:aDU.enc=ae9/\aDU.mo=dB1/\aDU.sz=1:=⟨rfl,rfl,rfl⟩
def agt:mc.enc=nY/\mc.mo=dS1/\mc.sz=1:=⟨rfl,rfl,rfl⟩
def JG:(∀xs:List Int,r6 (dI1 .i64) (mp aaG xs)=some xs)/\(∀xs:List Int,r6 (dI1 .u8) (mp ajD xs)=some xs)/\(∀xs:List Bool,r6 dB1 (mp ae9 xs)=some xs)/\∀xs:List Str,r6 dS1 (mp nY xs)=some xs:=
 ⟨Jb fun x=>by simp [dI1,aaG,dI],Jb fun x=>by simp [dI1,ajD,dI],Jb fun x=>rfl,Jb fun x=>rfl⟩
structure VF(W:Type) where
 enc:W->List AV
 mo:List jT->List AV->Option W
 ok:∀H n cs x,mo H cs=some x->n7 H n cs (enc x)
 nb:∀n x,w5 n (enc x)
section kv

def dC(c:VF W)(H:List jT):AV->Option W
 |.agg cs=>c.mo H cs
 |_=>none
def lD(c:VF W):Ty W where
 enc x:=.agg (c.enc x)
 mo:=dC c
 ok H n v x h:=by
  unfold dC at h;split at h
  ·exact .inr ⟨_,_,rfl,rfl,c.ok H n _ _ h⟩
  ·cases h
 nb n x:=c.nb n x
def aAW{c:VF W}{x:W}:(lD c).enc x=.agg (c.enc x):=rfl
def aAX{c:VF W}:(lD c).mo H v=dC c H v:=rfl
end kv
def tyU:Ty Unit where
 enc _:=.Ip []
 mo _
  |.Ip []=>some ()
  |_=>none
 ok H n v x h:=by
  split at h
  ·exact Co.same trivial
  ·cases h
 nb _ _:=trivial
def aAY{x:Unit}:tyU.enc x=.Ip []:=rfl
def aAZ:tyU.mo H (.Ip [])=some ():=rfl
section aDY
variable {γ δ ε:Type}
def d2(a:Ty W)(b:Ty O):AV->Option (W×O)
 |.Ip [x,y]=>(a.mo [] x).bind fun u=>(b.mo [] y).bind fun v=>some (u,v)
 |_=>none
def d3(a:Ty W)(b:Ty O)(c:Ty γ):AV->Option (W×O×γ)
 |.Ip [x,y,z]=>(a.mo [] x).bind fun u=>(b.mo [] y).bind fun v=>(c.mo [] z).bind fun w=>some (u,v,w)
 |_=>none
def d4(a:Ty W)(b:Ty O)(c:Ty γ)(d:Ty δ):AV->Option (W×O×γ×δ)
 |.Ip [x,y,z,p]=>(a.mo [] x).bind fun u=>(b.mo [] y).bind fun v=>(c.mo [] z).bind fun w=>(d.mo [] p).bind fun q=>some (u,v,w,q)
 |_=>none
def d5(a:Ty W)(b:Ty O)(c:Ty γ)(d:Ty δ)(e:Ty ε):AV->Option (W×O×γ×δ×ε)
 |.Ip [x,y,z,p,s]=>(a.mo [] x).bind fun u=>(b.mo [] y).bind fun v=>(c.mo [] z).bind fun w=>(d.mo [] p).bind fun q=>(e.mo [] s).bind fun t=>some (u,v,w,q,t)
 |_=>none
def ty2(a:Ty W)(b:Ty O):Ty (W×O) where
 enc x:=.Ip [a.enc x.1,b.enc x.2]
 mo _:=d2 a b
 ok H n v x h:=by
  unfold d2 at h;split at h
  ·simp only[dM,dN]at h;obtain⟨u,hu,w,hw,rfl⟩:=h;exact Co.sub (LY.Ip (q8.cons (a.ok [] 0 _ _ hu).oW (q8.cons (b.ok [] 0 _ _ hw).oW q8.nil))) ⟨a.nb n u,b.nb n w,trivial⟩
  ·cases h
 nb n x:=⟨a.nb n _,b.nb n _,trivial⟩
def ty3(a:Ty W)(b:Ty O)(c:Ty γ):Ty (W×O×γ) where
 enc x:=.Ip [a.enc x.1,b.enc x.2.1,c.enc x.2.2]
 mo _:=d3 a b c
 ok H n v x h:=by
  unfold d3 at h;split at h
  ·simp only[dM,dN]at h;obtain⟨u,hu,w,hw,p,hp,rfl⟩:=h;exact Co.sub (LY.Ip (q8.cons (a.ok [] 0 _ _ hu).oW (q8.cons (b.ok [] 0 _ _ hw).oW (q8.cons (c.ok [] 0 _ _ hp).oW q8.nil)))) ⟨a.nb n u,b.nb n w,c.nb n p,trivial⟩
  ·cases h
 nb n x:=⟨a.nb n _,b.nb n _,c.nb n _,trivial⟩
def ty4(a:Ty W)(b:Ty O)(c:Ty γ)(d:Ty δ):Ty (W×O×γ×δ) where
 enc x:=.Ip [a.enc x.1,b.enc x.2.1,c.enc x.2.2.1,d.enc x.2.2.2]
 mo _:=d4 a b c d
 ok H n v x h:=by
  unfold d4 at h;split at h
  ·simp only[dM,dN]at h;obtain⟨u,hu,w,hw,p,hp,q,hq,rfl⟩:=h;exact Co.sub (LY.Ip (q8.cons (a.ok [] 0 _ _ hu).oW (q8.cons (b.ok [] 0 _ _ hw).oW (q8.cons (c.ok [] 0 _ _ hp).oW (q8.cons (d.ok [] 0 _ _ hq).oW q8.nil))))) ⟨a.nb n u,b.nb n w,c.nb n p,d.nb n q,trivial⟩
  ·cases h
 nb n x:=⟨a.nb n _,b.nb n _,c.nb n _,d.nb n _,trivial⟩
def ty5(a:Ty W)(b:Ty O)(c:Ty γ)(d:Ty δ)(e:Ty ε):Ty (W×O×γ×δ×ε) where
 enc x:=.Ip [a.enc x.1,b.enc x.2.1,c.enc x.2.2.1,d.enc x.2.2.2.1,e.enc x.2.2.2.2]
 mo _:=d5 a b c d e
 ok H n v x h:=by
  unfold d5 at h;split at h
  ·simp only[dM,dN]at h;obtain⟨u,hu,w,hw,p,hp,q,hq,s,hs,rfl⟩:=h;exact Co.sub (LY.Ip (q8.cons (a.ok [] 0 _ _ hu).oW (q8.cons (b.ok [] 0 _ _ hw).oW (q8.cons (c.ok [] 0 _ _ hp).oW (q8.cons (d.ok [] 0 _ _ hq).oW (q8.cons (e.ok [] 0 _ _ hs).oW q8.nil)))))) ⟨a.nb n u,b.nb n w,c.nb n p,d.nb n q,e.nb n s,trivial⟩
  ·cases h
 nb n x:=⟨a.nb n _,b.nb n _,c.nb n _,d.nb n _,e.nb n _,trivial⟩
def aA0{a:Ty W}{b:Ty O}{x:W×O}:(ty2 a b).enc x=.Ip [a.enc x.1,b.enc x.2]:=rfl
def aA1{a:Ty W}{b:Ty O}:(ty2 a b).mo H v=d2 a b v:=rfl
def aA2{a:Ty W}{b:Ty O}{c:Ty γ}{x:W×O×γ}:(ty3 a b c).enc x=.Ip [a.enc x.1,b.enc x.2.1,c.enc x.2.2]:=rfl
def aA3{a:Ty W}{b:Ty O}{c:Ty γ}:(ty3 a b c).mo H v=d3 a b c v:=rfl
def aA4{a:Ty W}{b:Ty O}{c:Ty γ}{d:Ty δ}{x:W×O×γ×δ}:(ty4 a b c d).enc x=.Ip [a.enc x.1,b.enc x.2.1,c.enc x.2.2.1,d.enc x.2.2.2]:=rfl
def aA5{a:Ty W}{b:Ty O}{c:Ty γ}{d:Ty δ}:(ty4 a b c d).mo H v=d4 a b c d v:=rfl
def aA6{a:Ty W}{b:Ty O}{c:Ty γ}{d:Ty δ}{e:Ty ε}{x:W×O×γ×δ×ε}:(ty5 a b c d e).enc x=.Ip [a.enc x.1,b.enc x.2.1,c.enc x.2.2.1,d.enc x.2.2.2.1,e.enc x.2.2.2.2]:=rfl
def aA7{a:Ty W}{b:Ty O}{c:Ty γ}{d:Ty δ}{e:Ty ε}:(ty5 a b c d e).mo H v=d5 a b c d e v:=rfl
end aDY
def oB{Y:Type}(P:aKc)(rs:List ResultVar)(t:Ty Y)(J:jJ):Option Y:=
 bif J.df.isEmpty then(Pj P J rs).bind fun x=>ny ((frz 0 J.heap x).nb 0) (t.mo [] (frz 0 J.heap x))else none
def afa{Y:Type}{t:Ty Y}{r:Y}(h:oB P rs t J=some r):J.df=[]/\avS (fun v=>v=t.enc r) J.heap (Pj P J rs):=by
 unfold oB at h;cases hd:J.df with
 |cons p q=>rw[hd]at h;cases h
 |nil=>
 rw[hd]at h;simp only[eB,jy]at h;refine⟨rfl,?_⟩;cases hx:Pj P J rs with
 |none=>rw[hx]at h;cases h
 |some x=>
  rw[hx]at h;simp only[ep]at h;rw[mg]at h;exact⟨h.1,_,(t.ok [] 0 _ _ h.2).oW,rfl⟩
abbrev Ent:=List AV->List jT->Option (AV×List jT)
abbrev anV:=List AV->Option AV
section entries
variable {γ δ ε ζ Y:Type}
def ajE(t:Ty Y)(F:Option Y):Ent
 |[],H=>F.bind fun r=>some (t.enc r,H)
 |_,_=>none
def oI(a:Ty W)(t:Ty Y)(F:W->Option Y):Ent
 |[x],H=>(a.mo H x).bind fun x=>(F x).bind fun r=>some (t.enc r,H)
 |_,_=>none
def tj(a:Ty W)(b:Ty O)(t:Ty Y)(F:W->O->Option Y):Ent
 |[x,y],H=>(a.mo H x).bind fun x=>(b.mo H y).bind fun y=>(F x y).bind fun r=>some (t.enc r,H)
 |_,_=>none
def acL(a:Ty W)(b:Ty O)(c:Ty γ)(t:Ty Y)(F:W->O->γ->Option Y):Ent
 |[x,y,z],H=>(a.mo H x).bind fun x=>(b.mo H y).bind fun y=>(c.mo H z).bind fun z=>(F x y z).bind fun r=>some (t.enc r,H)
 |_,_=>none
def rq(e:Ent):anV:=fun args=>ny (w5 0 args) ((e args []).bind fun r=>some r.1)
def VG(P:aKc)(f:aKa)(e:Ent):Prop:=∀args J r H',e args J.heap=some (r,H')->Bf P f args J (fun o FJ=>o=.ret r/\FJ=H')
def Uo(P:aKc)(f:aKa)(e:anV):Prop:=∀args r,e args=some r->KD P f args (fun v=>v=r)
variable {a:Ty W} {b:Ty O} {c:Ty γ} {d:Ty δ} {e:Ty ε} {g:Ty ζ} {t:Ty Y}
def afb{F:Option Y}(h:∀r,F=some r->KD P f [] (fun v=>v=t.enc r)):VG P f (ajE t F):=by
 intro args J r H' he;unfold ajE at he;split at he
 ·simp only[dM,dN,dO]at he;obtain⟨r',hr,rfl,rfl⟩:=he;exact ae4 (n:=0) (h r' hr) EG.nil
 ·cases he
def lK{F:W->Option Y}(h:∀x r,F x=some r->KD P f [a.enc x] (fun v=>v=t.enc r)):VG P f (oI a t F):=by
 intro args J r H' he;unfold oI at he;split at he
 ·simp only[dM,dN,dO]at he;obtain⟨x,hx,r',hr,rfl,rfl⟩:=he;exact ae4 (n:=0) (h x r' hr) (EG.cons (a.ok _ 0 _ _ hx) EG.nil)
 ·cases he
def nT{F:W->O->Option Y}(h:∀x y r,F x y=some r->KD P f [a.enc x,b.enc y] (fun v=>v=t.enc r)):VG P f (tj a b t F):=by
 intro args J r H' he;unfold tj at he;split at he
 ·simp only[dM,dN,dO]at he;obtain⟨x,hx,y,hy,r',hr,rfl,rfl⟩:=he;exact ae4 (n:=0) (h x y r' hr) (EG.cons (a.ok _ 0 _ _ hx) (EG.cons (b.ok _ 0 _ _ hy) EG.nil))
 ·cases he
def aiK{F:W->O->γ->Option Y}(h:∀x y z r,F x y z=some r->KD P f [a.enc x,b.enc y,c.enc z] (fun v=>v=t.enc r)):VG P f (acL a b c t F):=by
 intro args J r H' he;unfold acL at he;split at he
 ·simp only[dM,dN,dO]at he;obtain⟨x,hx,y,hy,z,hz,r',hr,rfl,rfl⟩:=he;exact ae4 (n:=0) (h x y z r' hr) (EG.cons (a.ok _ 0 _ _ hx) (EG.cons (b.ok _ 0 _ _ hy) (EG.cons (c.ok _ 0 _ _ hz) EG.nil)))
 ·cases he
def ayi{F:Option Y}(h:∀r,F=some r->KD P f [] (fun w=>w=t.enc r)):Uo P f (rq (ajE t F)):=by
 intro args r he;unfold rq at he;rw[mg]at he;obtain⟨G9,he⟩:=he;unfold ajE at he;split at he
 ·simp only[dM,dN,Prod.exists,dO]at he;obtain⟨_,_,⟨r',hr,rfl,rfl⟩,rfl⟩:=he;exact aiG (h r' hr) (q8.nil) G9
 ·cases he
def mV{F:W->Option Y}(h:∀x r,F x=some r->KD P f [a.enc x] (fun w=>w=t.enc r)):Uo P f (rq (oI a t F)):=by
 intro args r he;unfold rq at he;rw[mg]at he;obtain⟨G9,he⟩:=he;unfold oI at he;split at he
 ·simp only[dM,dN,Prod.exists,dO]at he;obtain⟨_,_,⟨x,hx,r',hr,rfl,rfl⟩,rfl⟩:=he;exact aiG (h x r' hr) (q8.cons (a.ok _ 0 _ _ hx).oW q8.nil) G9
 ·cases he
def wu{F:W->O->Option Y}(h:∀x y r,F x y=some r->KD P f [a.enc x,b.enc y] (fun w=>w=t.enc r)):Uo P f (rq (tj a b t F)):=by
 intro args r he;unfold rq at he;rw[mg]at he;obtain⟨G9,he⟩:=he;unfold tj at he;split at he
 ·simp only[dM,dN,Prod.exists,dO]at he;obtain⟨_,_,⟨x,hx,y,hy,r',hr,rfl,rfl⟩,rfl⟩:=he;exact aiG (h x y r' hr) (q8.cons (a.ok _ 0 _ _ hx).oW (q8.cons (b.ok _ 0 _ _ hy).oW q8.nil)) G9
 ·cases he
def Qv{F:W->O->γ->Option Y}(h:∀x y z r,F x y z=some r->KD P f [a.enc x,b.enc y,c.enc z] (fun w=>w=t.enc r)):Uo P f (rq (acL a b c t F)):=by
 intro args r he;unfold rq at he;rw[mg]at he;obtain⟨G9,he⟩:=he;unfold acL at he;split at he
 ·simp only[dM,dN,Prod.exists,dO]at he;obtain⟨_,_,⟨x,hx,y,hy,z,hz,r',hr,rfl,rfl⟩,rfl⟩:=he;exact aiG (h x y z r' hr) (q8.cons (a.ok _ 0 _ _ hx).oW (q8.cons (b.ok _ 0 _ _ hy).oW (q8.cons (c.ok _ 0 _ _ hz).oW q8.nil))) G9
 ·cases he
end entries
def nE:List (Nat×Ent)->aKa->List AV->List jT->Option (AV×List jT)
 |[],_,_,_=>none
 |(g,e)::t,f,args,H=>if f=g then e args H else nE t f args H
def M5:List (Nat×anV)->aKa->List AV->Option AV
 |[],_,_=>none
 |(g,e)::t,f,args=>if f=g then e args else M5 t f args
def jP:∀f args (J:jJ) r H',nE [] f args J.heap=some (r,H')->Bf P f args J (fun o FJ=>o=.ret r/\FJ=H'):=by
 intro f args J r H' h;cases h
def jL{e:Ent}{t:List (Nat×Ent)}(h1:VG P g e)(h2:∀f args (J:jJ) r H',nE t f args J.heap=some (r,H')->Bf P f args J (fun o FJ=>o=.ret r/\FJ=H')):
 ∀f args (J:jJ) r H',nE ((g,e)::t) f args J.heap=some (r,H')->Bf P f args J (fun o FJ=>o=.ret r/\FJ=H'):=by
 intro f args J r H' h;simp only[nE]at h;split at h
 ·rename_i hg;subst hg;exact h1 _ _ _ _ h
 ·exact h2 _ _ _ _ _ h
def jQ:∀f args r,M5 [] f args=some r->KD P f args (fun v=>v=r):=by
 intro f args r h;cases h
def nf{e:anV}{t:List (Nat×anV)}(h1:Uo P g e)(h2:∀f args r,M5 t f args=some r->KD P f args (fun v=>v=r)):
 ∀f args r,M5 ((g,e)::t) f args=some r->KD P f args (fun v=>v=r):=by
 intro f args r h;simp only[M5]at h;split at h
 ·rename_i hg;subst hg;exact h1 _ _ h
 ·exact h2 _ _ _ h
structure NZ where
 f:List jT->Nat->AV->Option AV
 ok:∀H n v v',f H n v=some v'->Co H n v v'
variable {zs:List NZ}
structure ZO where
 f:List jT->Nat->jT->Option jT
 ok:∀H n x y,f H n x=some y->Qp H n x y
def zA:NZ:=⟨fun _ _ _=>some .any,fun _ _ _ _ h=>by cases h;exact Co.any⟩
def zK:NZ:=⟨fun _ n v=>ny (v.nb n) (some v),fun _ _ _ _ h=>by rw[mg]at h;obtain⟨h1,h2⟩:=h;cases h2;exact Co.same h1⟩
def zT(t:Ty W):NZ:=⟨fun H _ v=>(t.mo H v).bind fun x=>some (t.enc x),fun H n v v' h=>by
 simp only[dM,dN]at h;obtain⟨x,hx,rfl⟩:=h;exact t.ok H n v x hx⟩
def anW{sz:Nat}(hs:OY rows xD):LY (.kW true sz rows) (.kW true sz xD):=by
 rintro E v ⟨base,cap,hv,h1,h2,h3,h4,h5⟩;refine⟨base,cap,by rw[<-hs.1];exact hv,by rw[<-hs.1];exact h1,fun _=>by rw[<-hs.1];exact h2 rfl,h3,fun a ha sA=>h4 a ha ?_,fun a ha=>hs.2 E sz _ _ (h5 a ha)⟩;rintro rfl;exact sA (ed hs.1.symm)
def dLt(r:Row W):AV->Option (List W)
 |.kW true sz rows=>bif sz==r.sz then r6 r.mo rows else none
 |_=>none
def zL(r:Row W):NZ:=⟨fun _ _ v=>(dLt r v).bind fun x=>some (.kW true r.sz (mp r.enc x)),fun H n v v' h=>by
 simp only[dM,dN]at h;obtain⟨x,hx,rfl⟩:=h;unfold dLt at hx;split at hx
 ·rename_i sz rows;cases hz:(sz==r.sz)with
  |false=>rw[hz]at hx;cases hx
  |true=>
   rw[hz,jy]at hx;obtain rfl:=beq_iff_eq.1 hz;exact .inl (.inl ⟨anW (M4 hx).1,Al x⟩)
 ·cases hx⟩
def aH5{r:Row W}:(zL r).f H n v=(dLt r v).bind fun x=>some (.kW true r.sz (mp r.enc x)):=rfl
def aH6:zA.f H n v=some .any:=rfl
def aH7:zK.f H n v=ny (v.nb n) (some v):=rfl
def aH8{t:Ty W}:(zT t).f H n v=(t.mo H v).bind fun x=>some (t.enc x):=rfl
def ahU:List NZ->List jT->Nat->List AV->Option (List AV)
 |[],_,_,[]=>some []
 |z::zs,H,n,v::vs=>(z.f H n v).bind fun u=>(ahU zs H n vs).bind fun us=>some (u::us)
 |_,_,_,_=>none
def aiL:∀{zs:List NZ}{H:List jT}{n:Nat}{vs us:List AV},ahU zs H n vs=some us->EG H n vs us
 |[],_,_,[],us,h=>by simp only[ahU,dN]at h;subst h;rfl
 |z::zs,H,n,v::vs,us,h=>by
  simp only[ahU,dM,dN]at h;obtain⟨u,hu,ws,hws,rfl⟩:=h;exact EG.cons (z.ok _ _ _ _ hu) (aiL hws)
 |[],_,_,_::_,_,h=>by simp [ahU]at h
 |_::_,_,_,[],_,h=>by simp [ahU]at h
def oD:ZO:=⟨fun _ _ _=>some .xu,fun _ _ _ _ h=>by cases h;exact .inl rfl⟩
def oK:ZO:=⟨fun _ n x=>ny (rJ n x) (some x),fun _ _ _ _ h=>by rw[mg]at h;obtain⟨h1,h2⟩:=h;cases h2;exact .inr (.inl ⟨rfl,h1⟩)⟩
def oCf(zs:List NZ)(H:List jT)(n:Nat):jT->Option jT
 |.cells cs=>(ahU zs H n cs).bind fun ds=>some (.cells ds)
 |_=>none
def oC(zs:List NZ):ZO:=⟨oCf zs,fun H n x y h=>by
 unfold oCf at h;split at h
 ·simp only[dM,dN]at h;obtain⟨ds,hd,rfl⟩:=h;exact .inr (.inr (.inl ⟨_,_,rfl,rfl,aiL hd⟩))
 ·cases h⟩
def oTf(c:VF W)(H:List jT):jT->Option jT
 |.cells cs=>(c.mo H cs).bind fun x=>some (.cells (c.enc x))
 |_=>none
def oT(c:VF W):ZO:=⟨fun H _=>oTf c H,fun H n x y h=>by
 unfold oTf at h;split at h
 ·simp only[dM,dN]at h;obtain⟨z,hz,rfl⟩:=h;exact .inr (.inr (.inl ⟨_,_,rfl,rfl,(c.ok H n _ _ hz).ayg⟩))
 ·cases h⟩
def oAf(r:Row W):jT->Option jT
 |.lN tN sz rows=>(r6 r.mo rows).bind fun xs=>some (.lN tN sz (mp r.enc xs))
 |_=>none
def oA(r:Row W):ZO:=⟨fun _ _=>oAf r,fun H n x y h=>by
 unfold oAf at h;split at h
 ·simp only[dM,dN]at h;obtain⟨xs,hx,rfl⟩:=h;exact .inr (.inr (.inr (.inl ⟨_,_,_,_,rfl,rfl,(M4 hx).2,Al xs⟩)))
 ·cases h⟩
def aH9{x:jT}:oD.f H n x=some .xu:=rfl
def aIa{x:jT}:oK.f H n x=ny (rJ n x) (some x):=rfl
def aIb:(oC zs).f H n (.cells cs)=(ahU zs H n cs).bind fun ds=>some (.cells ds):=rfl
def aIc{c:VF W}:(oT c).f H n (.cells cs)=(c.mo H cs).bind fun x=>some (.cells (c.enc x)):=rfl
def aId{r:Row W}{tN:Bool}{sz:Nat}:(oA r).f H n (.lN tN sz rows)=(r6 r.mo rows).bind fun xs=>some (.lN tN sz (mp r.enc xs)):=rfl
def atb:List ZO->List jT->Nat->List jT->Option (List jT)
 |[],_,_,_=>some []
 |z::zs,H,n,v::vs=>(z.f H n v).bind fun u=>(atb zs H n vs).bind fun us=>some (u::us)
 |_::_,_,_,[]=>none
def auT:∀{zs:List ZO}{H:List jT}{n:Nat}{vs us:List jT},atb zs H n vs=some us->CoH H n vs us/\us.length=zs.length
 |[],_,_,vs,us,h=>by simp only[atb,dN]at h;subst h;exact⟨CoH.nil,rfl⟩
 |z::zs,H,n,v::vs,us,h=>by
  simp only[atb,dM,dN]at h;obtain⟨u,hu,ws,hws,rfl⟩:=h;obtain⟨h1,h2⟩:=auT hws;exact⟨⟨z.ok _ _ _ _ hu,h1⟩,by simp [h2]⟩
 |_::_,_,_,[],_,h=>by simp [atb]at h
def ap4:ash n []=True:=eq_true aay
def aA8(zs:List NZ)(zo:List ZO)(J:jJ):Option jJ:=
 (ahU zs J.heap zo.length J.jV).bind fun ss=>(atb zo J.heap zo.length J.heap).bind fun hs=>bif decide (J.low<=zo.length)then ny (ash zo.length J.df) (some ⟨ss,hs,J.low,J.df⟩)else none
def aA9{zo:List ZO}(h:aA8 zs zo J=some J'):KB J J':=by
 unfold aA8 at h;simp only[dM]at h;obtain⟨ss,h1,hs,h2,h3⟩:=h;cases hl:decide (J.low<=zo.length)with
 |false=>simp [hl]at h3
 |true=>
  simp only[hl,jy]at h3;rw[mg]at h3;obtain⟨ZI,h3⟩:=h3;simp only[dN]at h3;subst h3;obtain⟨h4,h5⟩:=auT h2;have hle:J.low<=hs.length:=by rw[h5];exact jC hl
  refine ajd.imp ⟨⟨⟨rfl,hle⟩,rfl,by rw[h5];exact ZI⟩,?_,?_⟩
  ·show EG J.heap hs.length J.jV ss;rw[h5];exact aiL h1
  ·show CoH J.heap hs.length J.heap hs;rw[h5];exact h4
def Gi(i sz:Nat)(tN:Bool)(J:jJ):jJ:=
 match J.jV[i]? with
 |some (.kW true _ [])=>{jV:=J.jV.set i (.lN J.heap.length 0),heap:=J.heap++[.lN tN sz []],low:=J.low,df:=J.df}
 |_=>J
def ajF {sz:Nat}{tN:Bool}:KB J (Gi i sz tN J):=by
 unfold Gi;split
 ·rename_i s h;exact apl h
 ·exact KB.refl J
section ayj
variable {a:Act}
def XD{b o:Nat}:(jT.cells cs).AT h b o->(jT.cells ds).AT h b o:=by
 intro hm;cases h with
 |pointer p=>cases p<;>exact hm
 |_=>exact hm
theorem N1{b:Nat}:(jT.cells cs).block h b->(jT.cells ds).block h b:=by
 intro hm;cases h with
 |pointer p=>cases p<;>exact hm
 |_=>exact hm
def acn(hl:H[l]? =some (.cells cs)){x:jT}(hx:(H.set l (.cells ds))[k]? =some x):(k=l/\x=.cells ds)\/(k≠l/\H[k]? =some x):=by
 grind
def atc(hl:J.heap[l]? =some (.cells cs)):C.env U (J.heap.set l (.cells ds)) w=C.env U J.heap w:=by
 have mR:l<J.heap.length:=(dV.1 hl).1
 have hmu:∀b o,F8 U (J.heap.set l (.cells ds)) b o↔F8 U J.heap b o:=by
  intro b o;constructor
  ·rintro⟨k,x,hx,hm⟩;rcases acn hl hx with⟨rfl,rfl⟩|⟨_,hx⟩
   ·exact⟨k,_,hl,XD hm⟩
   ·exact⟨k,x,hx,hm⟩
  ·rintro⟨k,x,hx,hm⟩;by_cases e:k=l
   ·subst e;rw[hl]at hx;cases hx;exact⟨k,_,dY mR,XD hm⟩
   ·exact⟨k,x,by grind,hm⟩
 unfold qu.env;congr 1
 ·grind
 ·funext k;by_cases e:k=l
  ·subst e;rw[dY mR,hl];rfl
  grind
 ·exact eH
def mM.ayk(S:mM C U J a w)(hl:J.heap[l]? =some (.cells cs))(h:∀b c t,U l=.pointer (some ⟨b,0,none⟩)->w.heap[b]? =some (.cells c t (0,0))->ko (C.env U J.heap w) cs c.toList->ko (C.env U J.heap w) ds c.toList):
 mM C U {J with heap:=J.heap.set l (.cells ds)} a w:=by
 have mR:l<J.heap.length:=(dV.1 hl).1;have aDZ:C.env U (J.heap.set l (.cells ds)) w=C.env U J.heap w:=atc hl
 have BM:sQ C U (J.heap.set l (.cells ds)) w J.df a.defers:=S.defers.ao0 (fun xs vs _ r=>by rw[aDZ];exact r) (fun _ _ _=>rfl) (fun k x b hx hb=>by
  grind [N1])
 refine {jV:=?_,defers:=BM,nX:=?_,apart:=?_,tW:=?_,size:=S.size,F9:=S.F9,nM:=S.nM,Ce:=?_,wS:=S.wS,rest:=S.rest,low:=⟨S.low.1,by show J.low<=(J.heap.set l (.cells ds)).length;rw[eH];exact S.low.2⟩,lR:=?_}
 ·show ko (C.env U (J.heap.set l (.cells ds)) w) J.jV a.tmps.toList;rw[aDZ];exact S.jV
 ·intro k x hx;show n8 (C.env U (J.heap.set l (.cells ds)) w) x (U k);rw[aDZ];rcases acn hl hx with⟨rfl,rfl⟩|⟨_,hx⟩
  ·obtain⟨b,c,t,h1,h2,h3,h4⟩:=S.nX k _ hl;exact⟨b,c,t,h1,h2,h b c t h1 h2 h3,h4⟩
  ·exact S.nX k x hx
 ·intro k k' x x' b hx Dt hb qR;rcases acn hl hx with⟨e1,rfl⟩|⟨_,h2⟩<;>rcases acn hl Dt with⟨e2,rfl⟩|⟨_,h3⟩
  ·rw[e1,e2]
  ·rw[e1]at hb ⊢;exact S.apart _ _ _ _ b hl h3 (N1 hb) qR
  ·rw[e2]at qR ⊢;exact S.apart _ _ _ _ b h2 hl hb (N1 qR)
  ·exact S.apart _ _ _ _ b h2 h3 hb qR
 ·intro k x b o hx hb;rcases acn hl hx with⟨rfl,rfl⟩|⟨_,hx⟩
  ·exact S.tW _ _ b o hl (N1 hb)
  ·exact S.tW _ _ b o hx hb
 ·intro k x b o hx hm hb;rcases acn hl hx with⟨rfl,rfl⟩|⟨_,hx⟩
  ·exact S.Ce _ _ b o hl (XD hm) hb
  ·exact S.Ce _ _ b o hx hm hb
 ·intro k hk;have:=S.lR k hk;show(U k=_/\(lZ (J.heap.set l (.cells ds))[k]? =_\/lZ (J.heap.set l (.cells ds))[k]? =none))\/((∃q,_/\∀k',lZ (J.heap.set l (.cells ds))[k]? =some k'->q<k')/\_)
  have e:lZ (J.heap.set l (.cells ds))[k]? =lZ J.heap[k]? :=by
   by_cases e:k=l
   ·subst e;rw[dY mR,hl];rfl
   grind
  rw[e];exact this
theorem amG {s sz:Nat}(hl:J.heap[l]? =some (.cells cs))(hc:cs[off]? =some (.kW true s [])):
 KB J {jV:=J.jV,heap:=J.heap.set l (.cells (cs.set off (.lN J.heap.length 0)))++[.lN true sz []],low:=J.low,df:=J.df}:=by
 intro C U a w S;have mR:l<J.heap.length:=(dV.1 hl).1;obtain⟨b,c,t,hφ,hh,rl,h1⟩:=S.nX l _ hl;obtain⟨v,hv,base,cap,rfl,_,CK,_⟩:=rl.get hc;have CK:cap=0:=CK rfl;subst CK
 have S':=S.Xs (tN:=true) (sz:=sz) (rows:=[]) (w':=w) (h':=.slice base 0 0) (dZ _) (fun _ _=>rfl) (fun _=>rfl) ⟨rfl,rfl⟩ (by
  intro b hb;cases base<;>simp [jT.block]at hb) (fun E' _ _=>⟨base,0,rfl,dZ _,fun _=>rfl,by simp,fun b _ h0=>absurd rfl h0⟩)
 refine⟨(fun k=>if k=J.heap.length then .slice base 0 0 else U k),?_⟩;have Xf:(J.heap++[jT.lN true sz []])[l]? =some (.cells cs):=by grind
 have S2:=S'.ayk (l:=l) (cs:=cs) (ds:=cs.set off (.lN J.heap.length 0)) Xf (by
  intro b2 c2 t2 h3 h4 r
  have e1:b2=b:=by
   grind
  subst e1;rw[show w.heap[b2]? =some (.cells c t (0,0))from hh]at h4;simp only[dN,Obj.cells.injEq]at h4;obtain⟨rfl,_⟩:=h4
  have asj:=ko.set (i:=off) (c:=.lN J.heap.length 0) (v:=.slice base 0 0) r ⟨by simp [qu.env],⟨_,_,_,rfl⟩,fun k hk=>by
   grind [qu.env]⟩
  grind [List.set_getElem_self])
 grind
def auU(l off sz:Nat)(J:jJ):jJ:=
 match J.heap[l]? with
 |some (.cells cs)=>match cs[off]? with
  |some (.kW true _ [])=>{jV:=J.jV,heap:=J.heap.set l (.cells (cs.set off (.lN J.heap.length 0)))++[.lN true sz []],low:=J.low,df:=J.df}
  |_=>J
 |_=>J
def ayl {sz:Nat}:KB J (auU l off sz J):=by
 grind [auU,amG,KB.refl]
end ayj
structure Af where
 gs:List (Nat×Nat×Bool)
 gc:List (Nat×Nat×Nat)
 zs:List NZ
 zo:List ZO
 sel:Option Nat
 aFU:Option (Nat×Nat)
def aym:Option AV->Bool
 |some (.kW _ _ _)=>true
 |_=>false
def aD0:Option Nat->jJ->Bool
 |none,_=>true
 |some i,J=>aym J.jV[i]?
def ayn(k:Nat):Option AV->Bool
 |some (.map k')=>k'==k
 |_=>false
def aD1:Option (Nat×Nat)->jJ->Bool
 |none,_=>true
 |some (i,k),J=>ayn k J.jV[i]?
def anX:List (Nat×Nat×Bool)->jJ->jJ
 |[],J=>J
 |(i,sz,b)::r,J=>anX r (Gi i sz b J)
def anY:List (Nat×Nat×Nat)->jJ->jJ
 |[],J=>J
 |(l,o,sz)::r,J=>anY r (auU l o sz J)
def amH:∀{g:List (Nat×Nat×Bool)}{J:jJ},KB J (anX g J)
 |[],J=>KB.refl J
 |(_,_,_)::_,_=>ajF.trans amH
def amI:∀{g:List (Nat×Nat×Nat)}{J:jJ},KB J (anY g J)
 |[],J=>KB.refl J
 |(_,_,_)::_,_=>ayl.trans amI
def aD2(N:Af)(J:jJ):Option jJ:=aA8 N.zs N.zo (anY N.gc (anX N.gs J))
def aBa{N:Af}(h:aD2 N J=some J'):KB J J':=(amH.trans amI).trans (aA9 h)
def sj:List (List Nat×Af)->List Nat->jJ->Option jJ
 |[],_,J=>some J
 |(q,N)::t,p,J=>if p=q then(bif aD0 N.sel J&&aD1 N.aFU J then aD2 N J else sj t p J)else sj t p J
def qI:∀(t:List (List Nat×Af))(p:List Nat)(J J':jJ),sj t p J=some J'->KB J J'
 |[],_,J,J',h=>by grind [sj,KB.refl]
 |(q,N)::t,p,J,J',h=>by
  simp only[sj]at h;split at h
  ·cases hs:(aD0 N.sel J&&aD1 N.aFU J)with
   |true=>rw[hs]at h;exact aBa h
   |false=>rw[hs]at h;exact qI t p J J' h
  ·exact qI t p J J' h
def ixA(J:jJ)(sz:Nat)(x i:AV):Option vW:=
 match x,i with
 |.kW _ Ph rows,.int _ n=>if Ph=sz then(Ab rows n).bind fun r=>some {val:=.pp r} else none
 | .lN l m,.int _ n=>match J.heap[l]? with
   |some (.lN true Ph rows)=>if Ph=sz/\rows.length=m then(Ab rows n).bind fun r=>some {val:=.pp r,rd:=[l]} else none
   |some (.lN false Ph rows)=>if Ph=sz/\rows.length=m then(Ab rows n).bind fun _=>some {val:=.own l n.toNat m 0 sz,rd:=[l]} else none
   |_=>none
 |_,_=>none
def aBb(s:ByteArray)(n:Int):Option UInt8:=if 0<=n then s[n.toNat]? else none
def ixS(x i:AV):Option vW:=
 match x,i with
 |.str s,.int _ n=>(aBb s n).bind fun b=>some {val:=.int .u8 b.toNat}
 |_,_=>none
def ldA(P:aKc)(J:jJ)(t:TypeId)(v:AV):Option vW:=
 match l4 P t,v with
 |some (g,n),.ptr l off=>match J.heap[l]? with
  |some (.cells cs)=>(mN g n (cs.drop off)).bind fun v=>ldV J.heap l v
  |_=>none
 |some (g,n),.pp cs=>(mN g n cs).bind fun v=>some {val:=v}
 |some (g,n),.own l i m o sz=>match J.heap[l]? with
  |some (.lN false Ph rows)=>if Ph=sz/\rows.length=m then rows[i]?.bind fun r=>(mN g n (r.drop o)).bind fun v=>some {val:=v,rd:=[l]} else none
  |_=>none
 |some (false,_),.sO v=>ai1 v
 |_,_=>none
def stA(P:aKc)(J:jJ)(t:TypeId)(v:AV)(ys:Option (List AV)):Option vW:=
 match l4 P t,v,ys with
 |some (_,n),.ptr l off,some ys=>match J.heap[l]? with
  |some (.cells cs)=>if ys.length=n/\off+n<=cs.length then some {val:=.any,rd:=[l],up:=[(l,.cells (wm cs off ys))]} else none
  |_=>none
 |some (_,n),.own l i m o sz,some ys=>match J.heap[l]? with
  |some (.lN false Ph rows)=>if Ph=sz/\rows.length=m then rows[i]?.bind fun r=>if ys.length=n/\o+n<=sz then some {val:=.any,rd:=[l],up:=[(l,.lN false sz (rows.set i (wm r o ys)))]} else none else none
  |_=>none
 |_,_,_=>none
def ayo(n:Int)(f:Nat->Option vW):Nat->Nat->Option vW
 |0,_=>none
 |c+1,i=>bif n==(i:Int)then f i else ayo n f c (i+1)
theorem auV{n:Int}{f:Nat->Option vW}:∀(c i:Nat),ayo n f c i=if (i:Int)<=n/\n<(i:Int)+c then f n.toNat else none
 |0,i=>by rw[if_neg (by omega)];rfl
 |c+1,i=>by
  rw[ayo,auV c (i+1)]
  grind
def ixP(len sz:Nat)(x i:AV):Option vW:=
 match x,i with
 |.ptr l off,.int _ n=>if len<=8 then ayo n (fun i=>some {val:=.ptr l (off+i*sz)}) len 0 else if 0<=n/\n<len then some {val:=.ptr l (off+n.toNat*sz)} else none
 |.pp cs,.int _ n=>if 0<=n/\n<len then(ai0 sz n.toNat cs).bind fun ds=>some {val:=.pp ds} else none
 |.sO (.pointer (some ⟨b,o,none⟩)),.int _ n=>if 0<=n/\n<len then some {val:=.sO (.pointer (some ⟨b,o+n.toNat*sz,none⟩))} else none
 |_,_=>none
def Xh (P:aKc) (J:jJ):Op->Option vW
 | .indexAddr t x i=>match lv P t with
   |some (_,sz,_)=>ixA J sz (J.ev x) (J.ev i)
   |none=>match ak1 P t with
    |some (len,sz)=>ixP len sz (J.ev x) (J.ev i)
    |none=>none
 |.index t x i=>if oR P t=true then ixS (J.ev x) (J.ev i)else none
 | .binOp op t x y ty=>match op with
   |.eql=>kQ P J (.binOp .eql t x y ty)
   |.neq=>kQ P J (.binOp .neq t x y ty)
   |op=>(amh op (J.ev x) (J.ev y)).bind fun v=>some {val:=v}
 |.load t x=>ldA P J t (J.ev x)
 |.store t x y=>stA P J t (J.ev x) (cellsOf (J.ev y))
 |o=>kQ P J o
def Qg(H:List jT):∀cs:List AV,w5 0 cs->vwL H cs=some (cs,[])
 |[],_=>rfl
 |c::cs,h=>by
  have ih:=Qg H cs h.2;cases c with
  |lN l n=>exact absurd h.1 (eI _)
  |_=>simp only[vwL,ih]
theorem uL(P:aKc)(J:jJ)(o:Op):kQ P J o=Xh P J o:=by
 cases o with
 |indexAddr t x i=>
  simp only[Xh];cases ht:lv P t with
  |none=>
   simp only[kQ,ht]
   grind [ixP,auV]
  |some q=>
   obtain⟨e,sz,b⟩:=q;simp only[kQ,ht]
   grind [ixA,Ab]
 |index t x i=>
  simp only[Xh,kQ];cases ht:oR P t
  ·grind
  ·cases hx:J.ev x<;>cases hi:J.ev i<;>simp only[ixS,jE]
   grind [aBb]
 |binOp op t x y ty=>
  cases op with
  |eql=>rfl
  |neq=>rfl
  |_=>
   simp only[Xh,kQ];generalize amh _ (J.ev x) (J.ev y)=q;cases q<;>rfl
 |load t x=>
  simp only[Xh,kQ,ldA]
  grind
 |store t x y=>
  simp only[Xh,kQ,stA]
  grind
 |_=>rfl
section freeze
variable {a:Act}
def rp1(l:Nat)(cs:List AV):AV->AV
 |.ptr k off=>if k=l then .pp (cs.drop off)else .ptr k off
 |x=>x
def rpV(l:Nat)(cs:List AV):AV->AV
 |.ptr k off=>if k=l then .pp (cs.drop off)else .ptr k off
 |.func fn f c=>.func fn (f.map (rp1 l cs)) (c.map (rp1 l cs))
 |x=>x
def rpO(l:Nat)(cs:List AV):jT->jT
 |.cells ds=>.cells (ds.map (rpV l cs))
 |x=>x
def ap5(l:Nat)(J:jJ):Option jJ:=
 match J.heap[l]? with
 |some (.cells cs)=>ny (w5 0 cs/\J.low<=l) (some {jV:=J.jV.map (rpV l cs),heap:=(J.heap.map (rpO l cs)).set l .xu,low:=J.low,df:=J.df})
 |_=>none
def ap6{x:jT}{b o:Nat}:(rpO l cs x).AT h b o->x.AT h b o:=by
 cases x with
 |cells ds=>exact XD
 |_=>exact id
theorem VH{x:jT}{b:Nat}:(rpO l cs x).block h b->x.block h b:=by
 cases x with
 |cells ds=>exact N1
 |_=>exact id
theorem aBc{x:jT}:lZ (some (rpO l cs x))=lZ (some x):=by
 cases x<;>rfl
def aD3{y:jT}(h:((H.map (rpO l cs)).set l .xu)[k]? =some y):(k=l/\y=.xu)\/(k≠l/\∃x,H[k]? =some x/\y=rpO l cs x):=by
 grind
theorem ayp(h:ap5 l J=some J'):KB J J':=by
 unfold ap5 at h;split at h
 case h_2=>cases h
 rename_i cs hl;rw[mg]at h;obtain⟨⟨G9,It⟩,h⟩:=h;cases h;intro C U a w S;refine⟨U,?_⟩;have mR:l<J.heap.length:=(dV.1 hl).1;obtain⟨b0,c0,t0,hφ,hh,rl,zf⟩:=S.nX l _ hl
 let H':List jT:=(J.heap.map (rpO l cs)).set l .xu
 have hlen:H'.length=J.heap.length:=by simp [H']
 have nA:∀(k:Nat)(y:jT),H'[k]? =some y->(k=l/\y=.xu)\/(k≠l/\∃x,J.heap[k]? =some x/\y=rpO l cs x):=fun k y hy=>aD3 hy
 have L0:∀b o,F8 U H' b o->F8 U J.heap b o:=by
  rintro b o ⟨k,y,hy,hm⟩;rcases nA k y hy with⟨_,rfl⟩|⟨_,x,hx,rfl⟩
  ·simp [jT.AT]at hm
  ·exact⟨k,x,hx,ap6 hm⟩
 have ao7:∀k:Nat,lZ H'[k]? =lZ J.heap[k]? :=by
  intro k;by_cases e:k=l
  ·subst e;simp only[H'];rw[dY (by simpa using mR),hl];rfl
  grind [aBc]
 have le:(C.env U J.heap w).Le J.heap.length (C.env U H' w):=
  qu.CG (by rw[hlen];exact dZ _) (fun k _=>⟨rfl,ao7 k⟩) (fun b o u hm hc=>⟨fun h=>hm (h.imp (L0 b o) id),hc⟩)
 have aFV:∀o,¬ (F8 U H' b0 o\/C.A b0 o):=by
  rintro o (⟨k,y,hy,hm⟩|hA)
  ·rcases nA k y hy with⟨_,rfl⟩|⟨sA,x,hx,rfl⟩
   ·simp [jT.AT]at hm
   ·exact sA (S.apart k l x _ b0 hx hl (VH (jT.nV hm)) (by rw[hφ];rfl))
  ·exact S.tW l _ b0 o hl (by rw[hφ];rfl) hA
 have rl':ko (C.env U H' w) cs c0.toList:=ko.mono le _ _ (sY (eo _) _ G9) rl
 have hpp:∀(off:Nat)(v:aKb),pg (C.env U J.heap w) (.ptr l off) v->pg (C.env U H' w) (.pp (cs.drop off)) v:=by
  rintro off v ⟨_,b,hb,rfl⟩
  have e:b0=b:=by
   have qR:U l=.pointer (some ⟨b,0,none⟩):=hb;rw[hφ]at qR;simpa using qR
  subst e;refine⟨b0,off,rfl,?_⟩;have hd:=rl'.drop off;have h1:∀u∈c0.toList.drop off,u.oneCell'=true:=fun u hu=>zf u (List.mem_of_mem_drop hu)
  have hl2:=hd.length;exact I8 (E:=C.env U H' w) (c:=c0) (t:=t0) (fr:=(0,0)) hh _ off (fun o _ _=>aFV o) (by grind) (by grind)
 have h1:∀(x:AV)(v:aKb),pg (C.env U J.heap w) x v->pg (C.env U H' w) (rp1 l cs x) v:=by
  intro x v r;cases x with
  |ptr k off=>
   simp only[rp1];split
   ·grind
   ·exact pg.mono le _ _ (pg.nb _ _ r) r
  |_=>exact pg.mono le _ _ (pg.nb _ _ r) r
 have hL1:∀(xs:List AV)(vs:List aKb),ko (C.env U J.heap w) xs vs->ko (C.env U H' w) (xs.map (rp1 l cs)) vs:=by
  intro xs;induction xs with
  |nil=>intro vs r;exact r
  |cons x xs ih=>rintro _ ⟨u,us,rfl,r1,r2⟩;exact⟨u,us,rfl,h1 x u r1,ih us r2⟩
 have hV:∀(x:AV)(v:aKb),pg (C.env U J.heap w) x v->pg (C.env U H' w) (rpV l cs x) v:=by
  intro x v r;cases x with
  |ptr k off=>
   simp only[rpV];split
   ·grind
   ·exact pg.mono le _ _ (pg.nb _ _ r) r
  |func fn f c=>
   obtain⟨f',c',hv,r1,r2⟩:=r;exact⟨f',c',hv,hL1 _ _ r1,hL1 _ _ r2⟩
  |_=>exact pg.mono le _ _ (pg.nb _ _ r) r
 have hLV:∀(xs:List AV)(vs:List aKb),ko (C.env U J.heap w) xs vs->ko (C.env U H' w) (xs.map (rpV l cs)) vs:=by
  intro xs;induction xs with
  |nil=>intro vs r;exact r
  |cons x xs ih=>rintro _ ⟨u,us,rfl,r1,r2⟩;exact⟨u,us,rfl,hV x u r1,ih us r2⟩
 have BM:sQ C U H' w J.df a.defers:=S.defers.step le (fun _ _ _=>rfl) (fun k y b hy hb=>by
  grind [jT.block,VH])
 refine {jV:=hLV _ _ S.jV,defers:=BM,nX:=?_,apart:=?_,tW:=?_,size:=S.size,F9:=S.F9,nM:=S.nM,Ce:=?_,wS:=S.wS,rest:=S.rest,low:=⟨S.low.1,by grind⟩,lR:=?_}
 ·intro k y hy;rcases nA k y hy with⟨_,rfl⟩|⟨_,x,hx,rfl⟩
  ·exact trivial
  ·have r:=S.nX k x hx;cases x with
   |cells ds=>
    obtain⟨b,c,t,h1,h2,h3,h4⟩:=r;exact⟨b,c,t,h1,h2,hLV _ _ h3,h4⟩
   |_=>exact n8.mono r le (fun _ _=>rfl)
 ·intro k k' y y' b hy hy' hb qR;rcases nA k y hy with⟨_,rfl⟩|⟨_,x,hx,rfl⟩
  ·simp [jT.block]at hb
  ·rcases nA k' y' hy' with⟨_,rfl⟩|⟨_,x',Dt,rfl⟩
   ·simp [jT.block]at qR
   ·exact S.apart k k' x x' b hx Dt (VH hb) (VH qR)
 ·intro k y b o hy hb;rcases nA k y hy with⟨_,rfl⟩|⟨_,x,hx,rfl⟩
  ·simp [jT.block]at hb
  ·exact S.tW k x b o hx (VH hb)
 ·intro k y b o hy hm hb;rcases nA k y hy with⟨_,rfl⟩|⟨_,x,hx,rfl⟩
  ·simp [jT.AT]at hm
  ·exact S.Ce k x b o hx (ap6 hm) hb
 ·intro k hk;have:=S.lR k hk
  grind
def ap7{sz:Nat}{b o:Nat}:(jT.lN true sz rows).AT h b o->(jT.lN false sz rows).AT h b o:=by
 intro hm;cases h with
 |slice base n cap=>
  cases base with
  |none=>exact hm
  |some a=>exact⟨hm.1,fun h=>by cases h⟩
 |_=>exact hm
def mM.tN{a:Act}{sz:Nat}(hl:J.heap[l]? =some (.lN false sz rows))(S:mM C U J a w):mM C U {J with heap:=J.heap.set l (.lN true sz rows)} a w:=by
 have mR:l<J.heap.length:=(dV.1 hl).1
 let H':List jT:=J.heap.set l (.lN true sz rows)
 have hlen:H'.length=J.heap.length:=by simp [H']
 have nA:∀(k:Nat)(y:jT),H'[k]? =some y->(k=l/\y=.lN true sz rows)\/J.heap[k]? =some y:=by
  grind
 have L0:∀b o,F8 U H' b o->F8 U J.heap b o:=by
  rintro b o ⟨k,y,hy,hm⟩;rcases nA k y hy with⟨rfl,rfl⟩|hx
  ·exact⟨k,_,hl,ap7 hm⟩
  ·exact⟨k,y,hx,hm⟩
 have ao7:∀k:Nat,lZ H'[k]? =lZ J.heap[k]? :=by
  intro k;by_cases e:k=l
  ·subst e;simp only[H'];rw[dY mR,hl];rfl
  grind
 have le:(C.env U J.heap w).Le J.heap.length (C.env U H' w):=
  qu.CG (by rw[hlen];exact dZ _) (fun k _=>⟨rfl,ao7 k⟩) (fun b o u hm hc=>⟨fun h=>hm (h.imp (L0 b o) id),hc⟩)
 have HZ:∀{h:aKb}{b:Nat},(jT.lN true sz rows).block h b->(jT.lN false sz rows).block h b:=by
  intro h b hb;cases h with
  |slice base n cap=>cases base<;>exact hb
  |_=>exact hb
 have ayq:∀(k:Nat)(y:jT)(b:Nat),H'[k]? =some y->y.block (U k) b->∃x,J.heap[k]? =some x/\x.block (U k) b:=by
  grind
 have BM:sQ C U H' w J.df a.defers:=S.defers.step le (fun _ _ _=>rfl) (fun k y b hy hb=>by
  grind)
 refine {jV:=ko.mono le _ _ (ko.nb _ _ S.jV) S.jV,defers:=BM,nX:=?_,apart:=?_,tW:=?_,size:=S.size,F9:=S.F9,nM:=S.nM,Ce:=?_,wS:=S.wS,rest:=S.rest,low:=⟨S.low.1,by show J.low<=H'.length;rw[hlen];exact S.low.2⟩,lR:=?_}
 ·intro k y hy;rcases nA k y hy with⟨rfl,rfl⟩|hx
  ·have r:n8 (C.env U H' w) (.lN false sz rows) (U k):=n8.mono (S.nX k _ hl) le (fun _ _=>rfl);exact r
  ·exact n8.mono (S.nX k y hx) le (fun _ _=>rfl)
 ·intro k k' y y' b hy hy' hb qR;obtain⟨x,hx,hb1⟩:=ayq k y b hy hb;obtain⟨x',Dt,hb2⟩:=ayq k' y' b hy' qR;exact S.apart k k' x x' b hx Dt hb1 hb2
 ·intro k y b o hy hb;obtain⟨x,hx,hb1⟩:=ayq k y b hy hb;exact S.tW k x b o hx hb1
 ·intro k y b o hy hm hb;rcases nA k y hy with⟨rfl,rfl⟩|hx
  ·exact S.Ce k _ b o hl (ap7 hm) hb
  ·exact S.Ce k y b o hx hm hb
 ·intro k hk;have:=S.lR k hk
  grind
theorem aBd {sz:Nat}(hl:J.heap[l]? =some (.lN false sz rows)):KB J {J with heap:=J.heap.set l (.lN true sz rows)}:=fun _ U _ _ S=>⟨U,mM.tN hl S⟩
def alf(J:jJ)(l:Nat):Option jT->jJ
 |some (.lN false sz rows)=>{J with heap:=J.heap.set l (.lN true sz rows)}
 |_=>J
theorem auW:KB J (alf J l J.heap[l]?):=by
 unfold alf
 grind [aBd,KB.refl]
def ahV(J:jJ):Option AV->jJ
 |some (.lN l _)=>alf J l J.heap[l]?
 |_=>J
def aBe{x:Option AV}:KB J (ahV J x):=by
 unfold ahV
 grind [auW,KB.refl]
theorem ayr{x:Option AV}:(ahV J x).low=J.low:=by
 unfold ahV alf;split
 ·split<;>rfl
 ·rfl
theorem aBf{x:Option AV}:(ahV J x).df=J.df:=by
 unfold ahV alf;split
 ·split<;>rfl
 ·rfl
def aD4:(∀l n,ahV J (some (.lN l n))=alf J l J.heap[l]?):=fun _ _=>rfl
def aD5:(∀sz rows,alf J l (some (.lN false sz rows))={J with heap:=J.heap.set l (.lN true sz rows)})/\(∀sz rows,alf J l (some (.lN true sz rows))=J):=⟨fun _ _=>rfl,fun _ _=>rfl⟩
end freeze
def fzX(l:Nat)(J:jJ):Option jT->Option jJ
 |some (.lN _ _ _)=>some (alf J l J.heap[l]?)
 |_=>ap5 l J
def aD6{x:Option jT}(h:fzX l J x=some J'):KB J J':=by
 unfold fzX at h
 grind [auW,ayp]
def amJ:List Nat->jJ->Option jJ
 |[],J=>some J
 |l::ls,J=>(fzX l J J.heap[l]?).bind (amJ ls)
def aFW:(∀i s r,fzX l J (some (.lN i s r))=some (alf J l J.heap[l]?))/\(∀cs,fzX l J (some (.cells cs))=ap5 l J):=⟨fun _ _ _=>rfl,fun _=>rfl⟩
def ap8:∀{ls:List Nat}{J J':jJ},amJ ls J=some J'->KB J J'
 |[],J,J',h=>by grind [amJ,KB.refl]
 |l::ls,J,J',h=>by
  simp only[amJ,dM]at h;obtain⟨J1,h1,h2⟩:=h;exact(aD6 h1).trans (ap8 h2)
def aaH:List (List Nat×List Nat)->List Nat->jJ->Option jJ
 |[],_,J=>some J
 |(q,ls)::t,p,J=>if p=q then amJ ls J else aaH t p J
def rz:∀(t:List (List Nat×List Nat))(p:List Nat)(J J':jJ),aaH t p J=some J'->KB J J'
 |[],_,J,J',h=>by grind [aaH,KB.refl]
 |(q,ls)::t,p,J,J',h=>by
  simp only[aaH]at h;split at h
  ·exact ap8 h
  ·exact rz t p J J' h
section aIe
def cI(k:aKf):VF Int where
 enc n:=[.int k n]
 mo _ cs:=dI1 k cs
 ok H n cs x h:=by
  unfold dI1 at h
  grind [n7.cons,yP,n7.nil]
 nb _ _:=⟨trivial,trivial⟩
def cB:VF Bool where
 enc b:=[.bool b]
 mo _ cs:=dB1 cs
 ok H n cs x h:=by
  unfold dB1 at h
  grind [n7.cons,amF,n7.nil]
 nb _ _:=⟨trivial,trivial⟩
def cS:VF Str where
 enc s:=[.str (sb s)]
 mo _ cs:=dS1 cs
 ok H n cs x h:=by
  unfold dS1 at h
  grind [n7.cons,VE,n7.nil]
 nb _ _:=⟨trivial,trivial⟩
variable {γ:Type}
def dL1(r:Row W)(H:List jT):List AV->Option (List W)
 |[c]=>dL r H c
 |_=>none
def cL(r:Row W):VF (List W) where
 enc xs:=[.kW false r.sz (mp r.enc xs)]
 mo:=dL1 r
 ok H n cs x h:=by
  unfold dL1 at h
  grind [n7.cons,Mb,n7.nil]
 nb n xs:=⟨Al xs,trivial⟩
def dF1(f:aKa):List AV->Option Unit
 |[c]=>dF f c
 |_=>none
def cF (f:aKa):VF Unit where
 enc _:=[.func (.func f) [] []]
 mo _ cs:=dF1 f cs
 ok H n cs x h:=by
  unfold dF1 at h;split at h
  ·unfold dF at h;split at h
   ·split at h
    ·rename_i e;subst e;exact n7.cons (Co1.sub (LY.refl _) ⟨trivial,trivial⟩) n7.nil
    ·cases h
   ·cases h
  ·cases h
 nb _ _:=⟨⟨trivial,trivial⟩,trivial⟩
def aIf{k:aKf}:(∀n,(cI k).enc n=[.int k n])/\∀H cs,(cI k).mo H cs=dI1 k cs:=⟨fun _=>rfl,fun _ _=>rfl⟩
def aIg:(∀n,cB.enc n=[.bool n])/\∀H cs,cB.mo H cs=dB1 cs:=⟨fun _=>rfl,fun _ _=>rfl⟩
def aIh:(∀n,cS.enc n=[.str (sb n)])/\∀H cs,cS.mo H cs=dS1 cs:=⟨fun _=>rfl,fun _ _=>rfl⟩
def aIi{r:Row W}:(∀n,(cL r).enc n=[.kW false r.sz (mp r.enc n)])/\∀H cs,(cL r).mo H cs=dL1 r H cs:=⟨fun _=>rfl,fun _ _=>rfl⟩
def aIj:(∀n,(cF f).enc n=[.func (.func f) [] []])/\∀H cs,(cF f).mo H cs=dF1 f cs:=⟨fun _=>rfl,fun _ _=>rfl⟩
def dP(c:VF W):AV->Option W
 |.pp cs=>c.mo [] cs
 |_=>none
def aFX{c:VF W}{x:W}(h:dP c v=some x):LY v (.pp (c.enc x)):=by
 unfold dP at h;split at h
 ·exact LY.pp (c.ok [] 0 _ _ h).oW.av8
 ·cases h
def Ch(c:VF W):Ty W where
 enc x:=.pp (c.enc x)
 mo _:=dP c
 ok H n v x h:=Co.sub (aFX h) (c.nb n x)
 nb n x:=c.nb n x
def aBg{c:VF W}{x:W}:(Ch c).enc x=.pp (c.enc x):=rfl
def aBh{c:VF W}:(Ch c).mo H v=dP c v:=rfl
def dK1(f:aKa)(a:Ty W):AV->Option W
 |.func (.func g) [] [x]=>if g=f then a.mo [] x else none
 |_=>none
def dK2(f:aKa)(a:Ty W)(b:Ty O):AV->Option (W×O)
 |.func (.func g) [] [x,y]=>if g=f then(a.mo [] x).bind fun u=>(b.mo [] y).bind fun v=>some (u,v)else none
 |_=>none
def dK3(f:aKa)(a:Ty W)(b:Ty O)(c:Ty γ):AV->Option (W×O×γ)
 |.func (.func g) [] [x,y,z]=>if g=f then(a.mo [] x).bind fun u=>(b.mo [] y).bind fun v=>(c.mo [] z).bind fun w=>some (u,v,w)else none
 |_=>none
def ap9(f:aKa)(a:Ty W):Ty W where
 enc x:=.func (.func f) [] [a.enc x]
 mo _:=dK1 f a
 ok H n v x h:=by
  unfold dK1 at h;split at h
  ·split at h
   ·rename_i e;subst e;exact Co.sub (LY.func q8.nil (q8.cons (a.ok [] 0 _ _ h).oW q8.nil)) ⟨trivial,a.nb n x,trivial⟩
   ·cases h
  ·cases h
 nb n x:=⟨trivial,a.nb n x,trivial⟩
def aFY(f:aKa)(a:Ty W)(b:Ty O):Ty (W×O) where
 enc x:=.func (.func f) [] [a.enc x.1,b.enc x.2]
 mo _:=dK2 f a b
 ok H n v x h:=by
  unfold dK2 at h;split at h
  ·split at h
   ·rename_i e;subst e;simp only[dM,dN]at h;obtain⟨u,hu,w,hw,rfl⟩:=h;exact Co.sub (LY.func q8.nil (q8.cons (a.ok [] 0 _ _ hu).oW (q8.cons (b.ok [] 0 _ _ hw).oW q8.nil))) ⟨trivial,a.nb n u,b.nb n w,trivial⟩
   ·cases h
  ·cases h
 nb n x:=⟨trivial,a.nb n _,b.nb n _,trivial⟩
def aFZ(f:aKa)(a:Ty W)(b:Ty O)(c:Ty γ):Ty (W×O×γ) where
 enc x:=.func (.func f) [] [a.enc x.1,b.enc x.2.1,c.enc x.2.2]
 mo _:=dK3 f a b c
 ok H n v x h:=by
  unfold dK3 at h;split at h
  ·split at h
   ·rename_i e;subst e;simp only[dM,dN]at h;obtain⟨u,hu,w,hw,p,hp,rfl⟩:=h;exact Co.sub (LY.func q8.nil (q8.cons (a.ok [] 0 _ _ hu).oW (q8.cons (b.ok [] 0 _ _ hw).oW (q8.cons (c.ok [] 0 _ _ hp).oW q8.nil)))) ⟨trivial,a.nb n u,b.nb n w,c.nb n p,trivial⟩
   ·cases h
  ·cases h
 nb n x:=⟨trivial,a.nb n _,b.nb n _,c.nb n _,trivial⟩
def aD7{a:Ty W}:(∀x,(ap9 f a).enc x=.func (.func f) [] [a.enc x])/\∀H v,(ap9 f a).mo H v=dK1 f a v:=⟨fun _=>rfl,fun _ _=>rfl⟩
def aD8{a:Ty W}{b:Ty O}:(∀x,(aFY f a b).enc x=.func (.func f) [] [a.enc x.1,b.enc x.2])/\∀H v,(aFY f a b).mo H v=dK2 f a b v:=⟨fun _=>rfl,fun _ _=>rfl⟩
def aD9{a:Ty W}{b:Ty O}{c:Ty γ}:(∀x,(aFZ f a b c).enc x=.func (.func f) [] [a.enc x.1,b.enc x.2.1,c.enc x.2.2])/\∀H v,(aFZ f a b c).mo H v=dK3 f a b c v:=⟨fun _=>rfl,fun _ _=>rfl⟩
end aIe
section nX
variable {γ:Type}
structure OTy(W:Type) where
 enc:W->jT
 mo:List jT->jT->Option W
 ok:∀H n x y,mo H x=some y->Qp H n x (enc y)
 qc:∀τ y,(enc y).qc τ=enc y
 nb:∀n y,rJ n (enc y)
def daT(tN:Bool)(r:Row W):jT->Option (List W)
 |.lN aIk sz rows=>if aIk=tN/\sz=r.sz then r6 r.mo rows else none
 |_=>none
def oaT(tN:Bool)(r:Row W):OTy (List W) where
 enc xs:=.lN tN r.sz (mp r.enc xs)
 mo _:=daT tN r
 ok H n x y h:=by
  unfold daT at h;split at h
  ·split at h
   ·rename_i hc;obtain⟨rfl,rfl⟩:=hc;exact .inr (.inr (.inr (.inl ⟨_,_,_,_,rfl,rfl,(M4 h).2,Al y⟩)))
   ·cases h
  ·cases h
 qc τ y:=by grind [jT.qc,wo,Al]
 nb n y:=Al y
def dcT(c:VF W)(H:List jT):jT->Option W
 |.cells cs=>c.mo H cs
 |_=>none
def Am(c:VF W):OTy W where
 enc x:=.cells (c.enc x)
 mo:=dcT c
 ok H n x y h:=by
  unfold dcT at h;split at h
  ·exact .inr (.inr (.inl ⟨_,_,rfl,rfl,(c.ok H n _ _ h).ayg⟩))
  ·cases h
 qc τ y:=by simp only[jT.qc];rw[rR τ _ (c.nb 0 y)]
 nb n y:=c.nb n y
def aF0{tN:Bool}{r:Row W}:(∀x,(oaT tN r).enc x=.lN tN r.sz (mp r.enc x))/\∀H x,(oaT tN r).mo H x=daT tN r x:=⟨fun _=>rfl,fun _ _=>rfl⟩
def aF1{c:VF W}:(∀x,(Am c).enc x=.cells (c.enc x))/\∀H x,(Am c).mo H x=dcT c H x:=⟨fun _=>rfl,fun _ _=>rfl⟩
structure VI(O:Type) where
 enc:O->List jT
 mo:List jT->List jT->Option O
 ok:∀H n xs b,mo H xs=some b->CoH H n xs (enc b)/\(enc b).length=xs.length
 qc:∀τ b,∀y∈enc b,y.qc τ=y
 nb:∀n b,∀y∈enc b,rJ n y
def uA:VI Unit where
 enc _:=[]
 mo _
  |[]=>some ()
  |_=>none
 ok H n xs b h:=by
  grind [CoH.nil]
 qc _ _:=by simp
 nb _ _:=by simp
def aBi(o:OTy γ)(s:VI O)(H:List jT):List jT->Option (γ×O)
 |x::xs=>(o.mo H x).bind fun y=>(s.mo H xs).bind fun b=>some (y,b)
 |[]=>none
def wh(o:OTy γ)(s:VI O):VI (γ×O) where
 enc b:=o.enc b.1::s.enc b.2
 mo:=aBi o s
 ok H n xs b h:=by
  unfold aBi at h;split at h
  ·simp only[dM,dN]at h;obtain⟨y,hy,b,hb,rfl⟩:=h;obtain⟨h1,h2⟩:=s.ok H n _ _ hb;exact⟨⟨o.ok H n _ _ hy,h1⟩,by simp [h2]⟩
  ·cases h
 qc τ b y hy:=by
  simp only[ez]at hy;rcases hy with rfl|hy
  ·exact o.qc τ _
  ·exact s.qc τ _ y hy
 nb n b y hy:=by
  simp only[ez]at hy;rcases hy with rfl|hy
  ·exact o.nb n _
  ·exact s.nb n _ y hy
def aF2:(∀b,uA.enc b=[])/\∀H,uA.mo H []=some ():=⟨fun _=>rfl,fun _=>rfl⟩
def aF3{o:OTy γ}{s:VI O}:(∀b,(wh o s).enc b=o.enc b.1::s.enc b.2)/\∀H xs,(wh o s).mo H xs=aBi o s H xs:=⟨fun _=>rfl,fun _ _=>rfl⟩
structure HA(O W:Type) where
 enc:O->W->List AV
 mo:O->List jT->List AV->Option W
 lr:Nat
 ok:∀b H n xs a,lr<=n->mo b H xs=some a->EG H n xs (enc b a)
def Jl:HA O Unit where
 enc _ _:=[]
 mo _ _
  |[]=>some ()
  |_=>none
 lr:=0
 ok b H n xs a _ h:=by
  grind [EG.nil]
def aBj(t:Ty γ)(s:HA O W)(b:O)(H:List jT):List AV->Option (γ×W)
 |x::xs=>(t.mo H x).bind fun y=>(s.mo b H xs).bind fun a=>some (y,a)
 |[]=>none
def Qw(t:Ty γ)(s:HA O W):HA O (γ×W) where
 enc b a:=t.enc a.1::s.enc b a.2
 mo:=aBj t s
 lr:=s.lr
 ok b H n xs a hn h:=by
  unfold aBj at h;split at h
  ·simp only[dM,dN]at h;obtain⟨y,hy,a,ha,rfl⟩:=h;exact EG.cons (t.ok H n _ _ hy) (s.ok b H n _ _ hn ha)
  ·cases h
def aBk(k:Nat)(len:O->Nat)(s:HA O W)(b:O)(H:List jT):List AV->Option W
 |.lN l m::xs=>if l=k/\m=len b then s.mo b H xs else none
 |_=>none
def rsA(k:Nat)(len:O->Nat)(s:HA O W):HA O W where
 enc b a:=.lN k (len b)::s.enc b a
 mo:=aBk k len s
 lr:=max (k+1) s.lr
 ok b H n xs a hn h:=by
  unfold aBk at h;split at h
  ·split at h
   ·rename_i hc;obtain⟨rfl,rfl⟩:=hc;exact EG.cons (Co.same (show _<n by omega)) (s.ok b H n _ _ (by omega) h)
   ·cases h
  ·cases h
def aF4:(∀(b:O) a,Jl.enc b a=[])/\(∀(b:O) H,Jl.mo b H []=some ())/\(Jl:HA O Unit).lr=0:=⟨fun _ _=>rfl,fun _ _=>rfl,rfl⟩
def aF5{t:Ty γ}{s:HA O W}:(∀b a,(Qw t s).enc b a=t.enc a.1::s.enc b a.2)/\(∀b H xs,(Qw t s).mo b H xs=aBj t s b H xs)/\(Qw t s).lr=s.lr:=⟨fun _ _=>rfl,fun _ _ _=>rfl,rfl⟩
def aF6{len:O->Nat}{s:HA O W}:(∀b a,(rsA k len s).enc b a=.lN k (len b)::s.enc b a)/\(∀b H xs,(rsA k len s).mo b H xs=aBk k len s b H xs)/\(rsA k len s).lr=max (k+1) s.lr:=⟨fun _ _=>rfl,fun _ _ _=>rfl,rfl⟩
end nX
def uv:List AV->AV
 |[y]=>y
 |ys=>.Ip ys
theorem CoH.take:∀{xs ys:List jT}(k:Nat),CoH H n (xs.take k) ys->CoH H n xs ys
 |_,[],_,_=>CoH.nil
 |[],_::_,k,h=>by cases k<;>exact h.elim
 |x::xs,y::ys,0,h=>h.elim
 |x::xs,y::ys,k+1,h=>⟨h.1,CoH.take k h.2⟩
section aIl
variable {M:kG R}
def aef(J J':jJ):Prop:=∀(C:qu)(U:Nat->aKb)(tmps:Array aKb)(w:aKd),mM C U J {tmps,defers:=[]} w->∃U',mM C U' J' {tmps,defers:=[]} w
theorem KB.e(h:KB J J'):aef J J':=fun C U tmps w S=>h C U _ w S
def aef.trans {σ'':jJ}(h:aef J J')(h':aef J' σ''):aef J σ'':=fun C U tmps w S=>
 let ⟨U',S'⟩:=h C U tmps w S
 h' C U' tmps w S'
def N2 {xs:List AV}(hx:Bg P J' rs=some xs)(H6:aef ⟨xs,J'.heap,J'.low,[]⟩ ⟨ys,H',J'.low,[]⟩):agp P rs (fun o FJ=>o= .ret (uv ys)/\FJ=H') none J':=by
 have key:∃x,Pj P J' rs=some x/\∃r FJ,aea J' x r FJ/\((vf.ret r)=.ret (uv ys)/\FJ=H'):=by
  have exp:∀(x:AV),(∀C U a w,mM C U J' a w->∀v,pg (C.env U J'.heap w) x v->∃vs:List aKb,ko (C.env U J'.heap w) xs vs/\∀E,ko E ys vs->pg E (uv ys) v)->aea J' x (uv ys) H':=by
   intro x RC C U a w S v hv;obtain⟨vs,hvs,aax⟩:=RC C U a w S v hv;have S0:mM C U ⟨xs,J'.heap,J'.low,[]⟩ {tmps:=vs.toArray,defers:=[]} w:={S with jV:=by simpa using hvs,defers:=sQ.nil};obtain⟨U',S1⟩:=H6 C U vs.toArray w S0;exact⟨U',{S1 with jV:=rfl,defers:=sQ.nil},aax _ (by simpa using S1.jV)⟩
  unfold Pj;rw[hx]
  match xs,hx,exp with
  |[x],hx,exp=>
   refine⟨x,rfl,_,_,exp x ?_,rfl,rfl⟩;intro C U a w S v hv;refine⟨[v],⟨v,[],rfl,hv,rfl⟩,fun E hr=>?_⟩;have:=hr.length
   match ys,this,hr with
   |[y],_,⟨u,us,he,h1,h2⟩=>
    simp only[eu]at he;obtain⟨rfl,_⟩:=he;exact h1
  |[],hx,exp=>
   refine⟨.Ip [],rfl,_,_,exp _ ?_,rfl,rfl⟩;rintro C U a w S v ⟨vs,rfl,hvs⟩;refine⟨vs.toList,hvs,fun E hr=>?_⟩;have h1:=hr.length;have h2:=hvs.length
   match ys,hr,h1 with
   |[],hr,_=>exact⟨vs,rfl,hr⟩
   |[_],hr,h1=>rw[h1]at h2;simp at h2
   |_::_::_,hr,h1=>rw[h1]at h2;simp at h2
  |x::x'::xs,hx,exp=>
   refine⟨.Ip (x::x'::xs),rfl,_,_,exp _ ?_,rfl,rfl⟩;rintro C U a w S v ⟨vs,rfl,hvs⟩;refine⟨vs.toList,hvs,fun E hr=>?_⟩;have h1:=hr.length;have h2:=hvs.length
   match ys,hr,h1 with
   |[],hr,h1=>rw[h1]at h2;simp at h2
   |[_],hr,h1=>rw[h1]at h2;simp at h2
   |_::_::_,hr,_=>exact⟨vs,rfl,hr⟩
 exact key
def aqa {y:AV}(H6:aef ⟨[x],J'.heap,J'.low,[]⟩ ⟨[y],H',J'.low,[]⟩):agp P rs (fun o FJ=>o=.panic y/\FJ=H') (some x) J':=by
 refine⟨y,H',?_,rfl,rfl⟩;intro C U a w S v hv;have S0:mM C U ⟨[x],J'.heap,J'.low,[]⟩ {tmps:=[v].toArray,defers:=[]} w:={S with jV:=⟨v,[],rfl,hv,rfl⟩,defers:=sQ.nil};obtain⟨U',S1⟩:=H6 C U _ w S0;obtain⟨u,us,he,h1,_⟩:=S1.jV;simp only[eu]at he;obtain⟨rfl,_⟩:=he;exact⟨U',{S1 with jV:=rfl,defers:=sQ.nil},h1⟩
def afc{fn:Func}{r:R}(G:Hh M)(hf:M.P.funcs[f]? =some fn)(hb:fn.body=some M.body)(sA:(fn.name != "runtime.NumGoroutine")=true)
 (G9:w5 H.length args) (H7:∀x∈H,rJ H.length x) (hn:fn.ntmps=n) (L1:fn.results=rs.toArray)
 (ahT:∀J,M.out J=some r->ae7 M.P (agp M.P rs V) J.df none J) (aF7:∀x J,M.pP x J=some r->ae7 M.P (agp M.P rs V) J.df (some x) J)
 (h:run M [.at []] {jV:=args++dU (n-args.length) .any,heap:=H,low:=H.length}=some r):FnG M.P f args H V:=by
 refine apD hf hb sA G9 H7 hn L1 ?_;exact XA G h (fun J' hs=>⟨ahT J' hs,ahT J' hs⟩) aF7
def zg{fn:Func}{r:R}(G:Hh M)(hf:M.P.funcs[f]? =some fn)(hb:fn.body=some M.body)(sA:(fn.name != "runtime.NumGoroutine")=true)
 (G9:w5 H.length args) (H7:∀x∈H,rJ H.length x) (hn:fn.ntmps=n) (L1:fn.results=rs.toArray)
 (ahT:∀J,M.out J=some r->J.df=[]/\∃xs,Bg M.P J rs=some xs/\aef ⟨xs,J.heap,J.low,[]⟩ ⟨ys,H',J.low,[]⟩)
 (h:run M [.at []] {jV:=args++dU (n-args.length) .any,heap:=H,low:=H.length}=some r) (hP:∀x J',M.pP x J'=none:=by intros;rfl):FnG M.P f args H (fun o FJ=>o=.ret (uv ys)/\FJ=H'):=by
 refine afc G hf hb sA G9 H7 hn L1 (fun J' hs=>?_) (fun x J' hx=>by rw[hP x J']at hx;cases hx) h;obtain⟨hd,xs,hx,H6⟩:=ahT J' hs;rw[hd];exact N2 hx H6
end aIl
section ajG
variable {γ:Type}
def ajG(P:aKc)(rs:List ResultVar)(os:VI O)(s:HA O W)(low:Nat)(J:jJ):Option (O×W):=
 (Bg P J rs).bind fun xs=>(os.mo J.heap (J.heap.take low)).bind fun b=>(s.mo b J.heap xs).bind fun a=>bif (J.low==low)&&decide (s.lr<=low)&&decide (low<=J.heap.length)&&J.df.isEmpty then some (b,a)else none
def aco{os:VI O}{s:HA O W}{r:O×W}(h:ajG P rs os s low J=some r):
 J.df=[]/\∃xs,Bg P J rs=some xs/\aef ⟨xs,J.heap,J.low,[]⟩ ⟨s.enc r.1 r.2,os.enc r.1,J.low,[]⟩:=by
 unfold ajG at h;simp only[dM]at h;obtain⟨xs,hx,b,hb,a,ha,h⟩:=h;cases hc:((J.low==low)&&decide (s.lr<=low)&&decide (low<=J.heap.length)&&J.df.isEmpty)with
 |false=>simp [hc]at h
 |true=>
  simp only[hc,jy,dN]at h;subst h;simp only[dQ,beq_iff_eq,jD]at hc;obtain⟨⟨⟨h1,h2⟩,h3⟩,h4⟩:=hc;refine⟨by simpa using h4,xs,hx,KB.e (ajd.imp (J:=⟨xs,J.heap,J.low,[]⟩) (J':=⟨s.enc b a,os.enc b,J.low,[]⟩) ⟨⟨⟨rfl,?_⟩,rfl,aay⟩,?_,?_⟩)⟩
  ·obtain⟨_,h5⟩:=os.ok J.heap 0 _ _ hb
   grind
  ·show EG J.heap (os.enc b).length xs (s.enc b a);obtain⟨_,h5⟩:=os.ok J.heap 0 _ _ hb;exact s.ok b J.heap _ xs a (by rw[h5,List.length_take];omega) ha
  ·show CoH J.heap (os.enc b).length J.heap (os.enc b);exact CoH.take low (os.ok J.heap _ _ _ hb).1
end ajG
section auX
theorem ajH:∀(ls:List Nat)(G:List jT)(ys:List jT)(l:Nat)(z:jT),l ∉ ls->(si G ls ys).set l z=si (G.set l z) ls ys
 |[],_,_,_,_,_=>by simp [si]
 |_::_,_,[],_,_,_=>by simp [si]
 |k::ls,G,y::ys,l,z,h=>by
  simp only[ez,not_or]at h;rw[si,si,ajH ls _ ys l z h.2,List.set_comm _ _ (fun e=>h.1 e.symm)]
theorem Up:∀(ls:List Nat)(G:List jT)(ys ys':List jT),ls.Nodup->ls.length<=ys'.length->si (si G ls ys) ls ys'=si G ls ys'
 |[],_,_,_,_,_=>by simp [si]
 |_::_,_,_,[],_,h=>by simp at h
 |l::ls,G,[],y'::ys',hnd,h=>by simp [si]
 |l::ls,G,y::ys,y'::ys',hnd,h=>by
  rw[List.nodup_cons]at hnd;simp only[eb,Nat.add_le_add_iff_right]at h;simp only[si];rw[ajH ls _ ys l y' hnd.1,List.set_set,Up ls _ ys ys' hnd.2 h]
def XE{H:List jT}{n:Nat}:∀{xs ys:List jT},(∀(k:Nat)(y:jT),ys[k]? =some y->∃x,xs[k]? =some x/\Qp H n x y)->CoH H n xs ys
 |_,[],_=>CoH.nil
 |[],y::ys,h=>by obtain⟨x,hx,_⟩:=h 0 y (by simp);simp at hx
 |x::xs,y::ys,h=>by
  obtain⟨x',hx,hc⟩:=h 0 y (by simp);simp at hx;subst hx;exact⟨hc,XE fun k z hz=>by have:=h (k+1) z (by simpa using hz);simpa using this⟩
theorem EG.append:∀{xs ys us vs:List AV},EG H n xs ys->EG H n us vs->EG H n (xs++us) (ys++vs)
 |[],_,_,_,rfl,h=>h
 |_::_,_,_,_,⟨y,zs,rfl,h,hs⟩,h2=>⟨y,zs++_,rfl,h,EG.append hs h2⟩
def auX {Pk:List AV}(hG:FnG P f args Ys (fun o H'=>o= .ret r/\H'=Ys'))(hnd:Y.Nodup)(hlen:Y.length=Ys.length)(aqb:Y.length<=Ys'.length)
 (OX:∀(i k:Nat),Y[i]? =some k->∃x y,J.heap[k]? =some x/\Ys[i]? =some y/\Qp J.heap J.heap.length x y) (Sf:EG J.heap J.heap.length Pk (sZ (oP Y J.heap.length) args))
 (aDF:∀y∈Ys++Ys',∀τ,y.qc τ=y):Bf P f Pk J (fun o H'=>o=.ret (r.qc (oP Y J.heap.length))/\H'=si J.heap Y Ys'++Ys'.drop Y.length):=by
 refine⟨hG.1,fun C U a w hP S vs hr=>?_⟩
 let H1:=si J.heap Y Ys
 have hl1:H1.length=J.heap.length:=xK _ _ _;have S0:mM C U ⟨J.jV++Pk,J.heap,J.low,J.df⟩ {tmps:=a.tmps++vs,defers:=a.defers} w:={S with jV:=by simpa using S.jV.append hr,defers:=S.defers}
 have hat:∀(i k:Nat),Y[i]? =some k->∃x y,J.heap[k]? =some x/\Ys[i]? =some y/\Qp J.heap J.heap.length x y/\H1[k]? =some y:=by
  grind [VC]
 have hw:ajd ⟨J.jV++Pk,J.heap,J.low,J.df⟩ ⟨J.jV++sZ (oP Y J.heap.length) args,H1,J.low,J.df⟩:=by
  refine⟨⟨⟨rfl,by show J.low<=H1.length;rw[hl1];exact S.low.2⟩,rfl,by show ash H1.length J.df;rw[hl1];exact NR.nb S.defers.2.2⟩,?_,?_⟩
  ·show EG J.heap H1.length _ _;rw[hl1];exact EG.append (EG.same (ko.nb _ _ S.jV)) Sf
  ·show CoH J.heap H1.length J.heap H1;rw[hl1];refine XE fun k y hy=>?_
   by_cases hk:k∈Y
   ·grind [ew]
   ·have hy2:J.heap[k]? =some y:=by grind [Hi]
    exact⟨y,hy2,.inr (.inl ⟨rfl,VA (S.nX k y hy2)⟩)⟩
 obtain⟨U',S1⟩:=hw.imp C U _ w S0;have hsl:=S1.jV;simp only[eg]at hsl;have hsz:a.tmps.toList.length=J.jV.length:=S.jV.length;have h1:=hsl.take J.jV.length;have h2:=hsl.drop J.jV.length;rw[dW rfl,dW hsz]at h1;rw[dX rfl,dX hsz]at h2;have S2:mM C U' {J with heap:=H1} a w:={S1 with jV:=h1,defers:=S1.defers}
 have xE:Bf P f (sZ (oP Y H1.length) args) {J with heap:=H1} (fun o H'=>o=.ret (r.qc (oP Y H1.length))/\H'=si J.heap Y Ys'++Ys'.drop Y.length):=by
  refine anL (J:={J with heap:=H1}) hG Y hlen hnd (q8.refl _) ?_ ?_
  ·grind
  ·rintro o H' ⟨rfl,rfl⟩;refine⟨rfl,?_⟩
   have hid:∀τ,H'.map (jT.qc τ)=H':=by
    intro τ;have:H'.map (jT.qc τ)=H'.map id:=ek fun y hy=>aDF y (List.mem_append.2 (.inr hy)) τ
    rw[this,List.map_id]
   grind [List.map_drop,xc,Up]
 rw[hl1]at xE;exact xE.2 C U' a w hP S2 vs h2
end auX
section args
variable {γ:Type}
structure Ix(O W:Type) where
 enc:O->W->List AV
 mo:List Nat->O->List jT->List AV->Option W
 ok:∀Y b H xs a,mo Y b H xs=some a->EG H H.length xs (sZ (oP Y H.length) (enc b a))
def LZ:Ix O Unit where
 enc _ _:=[]
 mo _ _ _
  |[]=>some ()
  |_=>none
 ok Y b H xs a h:=by
  split at h
  ·exact EG.nil
  ·cases h
def aBl(t:Ty γ)(s:Ix O W)(Y:List Nat)(b:O)(H:List jT):List AV->Option (γ×W)
 |x::xs=>(t.mo H x).bind fun y=>(s.mo Y b H xs).bind fun a=>some (y,a)
 |[]=>none
def asT(t:Ty γ)(s:Ix O W):Ix O (γ×W) where
 enc b a:=t.enc a.1::s.enc b a.2
 mo:=aBl t s
 ok Y b H xs a h:=by
  unfold aBl at h;split at h
  ·simp only[dM,dN]at h;obtain⟨y,hy,a,ha,rfl⟩:=h;refine EG.cons ?_ (s.ok Y b H _ _ ha);rw[M1 _ _ (t.nb 0 y)];exact t.ok H _ _ _ hy
  ·cases h
def aBm(k:Nat)(s:Ix O W)(Y:List Nat)(b:O)(H:List jT):List AV->Option W
 |.ptr l off::xs=>if off=0/\Y[k]? =some l/\l<H.length then s.mo Y b H xs else none
 |_=>none
theorem amK(h:Y[k]? =some l):oP Y n k=l:=by
 grind [oP]
def RD(k:Nat)(s:Ix O W):Ix O W where
 enc b a:=.ptr k 0::s.enc b a
 mo:=aBm k s
 ok Y b H xs a h:=by
  unfold aBm at h;split at h
  ·split at h
   ·rename_i hc;obtain⟨rfl,hc,hl⟩:=hc;refine EG.cons ?_ (s.ok Y b H _ _ h);show Co H H.length _ (.ptr (oP Y H.length k) 0);rw[amK hc];exact Co.same hl
   ·cases h
  ·cases h
def aBn(k:Nat)(len:O->Nat)(s:Ix O W)(Y:List Nat)(b:O)(H:List jT):List AV->Option W
 |.lN l m::xs=>if m=len b/\Y[k]? =some l/\l<H.length then s.mo Y b H xs else none
 |_=>none
def asA(k:Nat)(len:O->Nat)(s:Ix O W):Ix O W where
 enc b a:=.lN k (len b)::s.enc b a
 mo:=aBn k len s
 ok Y b H xs a h:=by
  unfold aBn at h;split at h
  ·split at h
   ·rename_i hc;obtain⟨rfl,hc,hl⟩:=hc;refine EG.cons ?_ (s.ok Y b H _ _ h);show Co H H.length _ (.lN (oP Y H.length k) _);rw[amK hc];exact Co.same hl
   ·cases h
  ·cases h
def aF8:(∀(b:O) a,LZ.enc b a=[])/\(∀Y (b:O) H,LZ.mo Y b H []=some ()):=⟨fun _ _=>rfl,fun _ _ _=>rfl⟩
def aF9{t:Ty γ}{s:Ix O W}:(∀b a,(asT t s).enc b a=t.enc a.1::s.enc b a.2)/\(∀Y b H xs,(asT t s).mo Y b H xs=aBl t s Y b H xs):=⟨fun _ _=>rfl,fun _ _ _ _=>rfl⟩
def aGa{s:Ix O W}:(∀b a,(RD k s).enc b a=.ptr k 0::s.enc b a)/\(∀Y b H xs,(RD k s).mo Y b H xs=aBm k s Y b H xs):=⟨fun _ _=>rfl,fun _ _ _ _=>rfl⟩
def aGb{len:O->Nat}{s:Ix O W}:(∀b a,(asA k len s).enc b a=.lN k (len b)::s.enc b a)/\(∀Y b H xs,(asA k len s).mo Y b H xs=aBn k len s Y b H xs):=⟨fun _ _=>rfl,fun _ _ _ _=>rfl⟩
end args
def ays:AV->Option Nat
 |.ptr l _=>some l
 |.lN l _=>some l
 |_=>none
def nameAt(args:List AV)(i:Nat):Option Nat:=(args[i]?).bind ays
def Jm:List Nat->Bool
 |[]=>true
 |x::xs=> !xs.contains x&&Jm xs
theorem Qh:∀{xs:List Nat},Jm xs=true->xs.Nodup
 |[],_=>List.nodup_nil
 |x::xs,h=>by
  simp only[Jm,dQ,Bool.not_eq_true',List.contains_eq_mem,decide_eq_false_iff_not]at h;exact List.nodup_cons.2 ⟨h.1,Qh h.2⟩
def ahq(H:List jT)(k:Nat):Option jT:=H[k]?
section Bh

def Bh(pos:List Nat)(os:VI O)(aJU:Ix O W)(M6:VI O')(rs:HA O' W')(F:O->W->Option (O'×W')):Ent:=fun args H=>
 (r6 (nameAt args) pos).bind fun Y=>bif Jm Y then(r6 (ahq H) Y).bind fun xs=>(os.mo H xs).bind fun b=>(aJU.mo Y b H args).bind fun a=>(F b a).bind fun r=>
   bif decide (Y.length<=(M6.enc r.1).length)then some ((uv (rs.enc r.1 r.2)).qc (oP Y H.length),si H Y (M6.enc r.1)++(M6.enc r.1).drop Y.length)else none else none
def VJ{H:List jT}:∀{Y:List Nat}{xs:List jT},r6 (ahq H) Y=some xs->Y.length=xs.length/\∀(i k:Nat),Y[i]? =some k->∃x,xs[i]? =some x/\H[k]? =some x
 |[],xs,h=>by grind [r6]
 |k::Y,xs,h=>by
  simp only[r6,dM,dN]at h;obtain⟨x,hx,ys,hys,rfl⟩:=h;obtain⟨h1,h2⟩:=VJ hys;refine⟨by simp [h1],fun i q hi=>?_⟩;cases i with
  |zero=>simp at hi;subst hi;exact⟨x,by simp,hx⟩
  |succ i=>grind
def pQ{pos:List Nat}{os:VI O}{aJU:Ix O W}{M6:VI O'}{rs:HA O' W'}{F:O->W->Option (O'×W')}
 (h:∀b a r,F b a=some r->FnG P f (aJU.enc b a) (os.enc b) (fun o H'=>o=.ret (uv (rs.enc r.1 r.2))/\H'=M6.enc r.1)):VG P f (Bh pos os aJU M6 rs F):=by
 intro args J r H' he;unfold Bh at he;simp only[dM]at he;obtain⟨Y,_,he⟩:=he;cases hnd:Jm Y with
 |false=>simp [hnd]at he
 |true=>
  simp only[hnd,jy,dM]at he;obtain⟨xs,hxs,b,hb,a,ha,q,hq,he⟩:=he;cases hl:decide (Y.length<=(M6.enc q.1).length)with
  |false=>simp [hl]at he
  |true=>
   simp only[hl,jy,dN,dO]at he;obtain⟨rfl,rfl⟩:=he;obtain⟨h1,h2⟩:=VJ hxs;obtain⟨h3,h4⟩:=os.ok J.heap J.heap.length _ _ hb;refine auX (h b a q hq) (Qh hnd) (by rw[h1,h4]) (jC hl) ?_ (aJU.ok Y b J.heap _ _ ha) ?_
   ·intro i k hi;obtain⟨x,hx,Dt⟩:=h2 i k hi;have mR:i<(os.enc b).length:=by grind
    obtain⟨x2,RC,hc⟩:=h3.get (dR mR)
    grind
   ·intro y hy τ;rcases List.mem_append.1 hy with hy|hy
    ·exact os.qc τ _ y hy
    ·exact M6.qc τ _ y hy
end Bh
abbrev aBo:=List AV->List jT->Option vW
section awa

def aGc.oW:∀{xs ys:List AV},EG [] n xs ys->q8 xs ys
 |[],_,rfl=>q8.nil
 |_::_,_,⟨y,zs,rfl,h,hs⟩=>q8.cons h.oW (aGc.oW hs)
def awa(aJU:Ix Unit W)(M6:VI O')(rs:HA O' W')(F:W->Option (O'×W')):aBo:=fun args H=>
 ny (w5 0 args) ((aJU.mo [] () [] args).bind fun a=>(F a).bind fun r=>bif (M6.enc r.1).isEmpty then none else some {val:=(uv (rs.enc r.1 r.2)).qc (oP [] H.length),nw:=M6.enc r.1})
def aBp{aJU:Ix Unit W}{M6:VI O'}{rs:HA O' W'}{F:W->Option (O'×W')}(G9:∀a,w5 0 (aJU.enc () a))
 (h:∀a r,F a=some r->FnG P f (aJU.enc () a) [] (fun o H'=>o=.ret (uv (rs.enc r.1 r.2))/\H'=M6.enc r.1)):
 ∀args J e,awa aJU M6 rs F args J.heap=some e->Hz P f args J e:=by
 intro args J e he;unfold awa at he;rw[mg]at he;obtain⟨hb,he⟩:=he;simp only[dM]at he;obtain⟨a,ha,r,hr,he⟩:=he;cases aGd:(M6.enc r.1).isEmpty with
 |true=>rw[aGd]at he;cases he
 |false=>
  rw[aGd,jz,dN]at he;subst he;have sA:M6.enc r.1≠[]:=by grind
  refine⟨⟨by simp,by simp⟩,fun J' _ hlen _=>?_⟩;have hlen:=hlen sA
  have acJ:q8 args (aJU.enc () a):=by
   have:=aGc.oW (aJU.ok [] () [] args a ha)
   grind [rR]
  have hG:=h a r hr
  have hG':FnG P f args [] (fun o H'=>o=.ret (uv (rs.enc r.1 r.2))/\H'=M6.enc r.1):=
   ⟨hG.1,hb,hG.2.2.1,fun C U w hP h0 hN hφ hM HS vs hr=>hG.2.2.2 C U w hP h0 hN hφ hM HS vs (acJ _ _ hr)⟩
  have:=auX (J:=J') (Pk:=args) (Y:=[]) hG' List.nodup_nil rfl (eo _) (by simp) (by rw[rR _ _ hb];exact EG.same (sY (eo _) _ hb)) (by
   intro y hy τ;simp only[eJ]at hy;exact M6.qc τ _ y hy)
  rw[hlen]at this;refine Bf.mono this ?_;rintro o H ⟨rfl,rfl⟩;refine⟨rfl,?_⟩;show si J'.heap [] (M6.enc r.1)++_=J'.heap++M6.enc r.1;cases M6.enc r.1<;>rfl
def atd:List (Nat×aBo)->aKa->List AV->List jT->Option vW
 |[],_,_,_=>none
 |(g,e)::t,f,args,H=>if f=g then e args H else atd t f args H
def mE:List Nat->aKa->Bool
 |[],_=>false
 |g::t,f=>f==g||mE t f
def uM:∀(f:aKa)(args:List AV)(J:jJ)(e:vW),(fun _ _ _=>none:aKa->List AV->List jT->Option vW) f args J.heap=some e->Hz P f args J e:=by
 intro f args J e h;cases h
def aqc:∀(f:aKa)(args:List AV)(J:jJ)(e:vW),atd [] f args J.heap=some e->Hz P f args J e:=by
 intro f args J e h;cases h
def anZ{e:aBo}{t:List (Nat×aBo)}(h1:∀args J ef,e args J.heap=some ef->Hz P g args J ef)
 (h2:∀(f:aKa)(args:List AV)(J:jJ)(ef:vW),atd t f args J.heap=some ef->Hz P f args J ef):∀(f:aKa)(args:List AV)(J:jJ)(ef:vW),atd ((g,e)::t) f args J.heap=some ef->Hz P f args J ef:=by
 grind [atd]
end awa
section aBq
variable {a:Act}
def aaI{xs:List AV}{y:jT}(hl:H[l]? =some y)(It:low<=l)(G9:∀z∈H.take low,rJ low z)(hy:rJ low y)(hr:w5 (low+1) (sZ (Xy low l) xs)):
 aef ⟨xs,H,low,[]⟩ ⟨sZ (Xy low l) xs,H.take low++[y],low,[]⟩:=by
 intro C U tmps w S;obtain⟨U',S',ui⟩:=asu (J:=⟨xs,H,low,[]⟩) (x:=.Ip xs) hl It G9 hy hr C U _ w S (.tuple tmps) ⟨tmps,rfl,S.jV⟩;obtain⟨vs,hv,rl⟩:=ui;simp only[Value.tuple.injEq]at hv;subst hv;exact⟨U',{S' with jV:=rl,defers:=sQ.nil}⟩
variable {γ:Type}
def ate(P:aKc)(rs:List ResultVar)(j:Nat)(r:Row γ)(s:HA (List γ×Unit) W)(J:jJ):Option ((List γ×Unit)×W):=
 bif J.df.isEmpty then(Bg P J rs).bind fun xs=>ayt (ahV (Gi j r.sz true ⟨xs,J.heap,0,[]⟩) (Gi j r.sz true ⟨xs,J.heap,0,[]⟩).jV[j]?) j r s J.low else none
where
 ayt (τ:jJ) (j:Nat) (r:Row γ) (s:HA (List γ×Unit) W) (low:Nat):Option ((List γ×Unit)×W):=
  match τ.jV[j]? with
  |some (.lN l _)=>match τ.heap[l]? with
   |some y=>ny (low=0/\rJ 0 y/\w5 1 (sZ (Xy 0 l) τ.jV)) (((wh (oaT true r) uA).mo [y] [y]).bind fun b=>(s.mo b [y] (sZ (Xy 0 l) τ.jV)).bind fun a=>bif decide (s.lr<=1)then some (b,a)else none)
   |none=>none
  |_=>none
def acp{r:Row γ}{s:HA (List γ×Unit) W}{q:(List γ×Unit)×W}(h:ate P rs j r s J=some q):
 J.df=[]/\∃xs,Bg P J rs=some xs/\aef ⟨xs,J.heap,J.low,[]⟩ ⟨s.enc q.1 q.2,(wh (oaT true r) uA).enc q.1,J.low,[]⟩:=by
 unfold ate at h;cases hd0:J.df with
 |cons p q=>rw[hd0]at h;cases h
 |nil=>
 rw[hd0]at h;simp only[eB,jy]at h;simp only[dM]at h;obtain⟨xs,hx,h⟩:=h;refine⟨rfl,xs,hx,?_⟩;unfold ate.ayt at h;split at h
 case h_2=>cases h
 rename_i l m hs;split at h
 case h_2=>cases h
 rename_i y hl;rw[mg]at h;obtain⟨⟨It,h1,h2⟩,h⟩:=h;simp only[dM]at h;obtain⟨b,hb,a,ha,h⟩:=h;cases hd:decide (s.lr<=1)with
 |false=>simp [hd]at h
 |true=>
  simp only[hd,jy,dN]at h;subst h;rw[It];have i1:KB ⟨xs,J.heap,0,[]⟩ (ahV (Gi j r.sz true ⟨xs,J.heap,0,[]⟩) (Gi j r.sz true ⟨xs,J.heap,0,[]⟩).jV[j]?):=ajF.trans aBe;have aGe:(ahV (Gi j r.sz true ⟨xs,J.heap,0,[]⟩) (Gi j r.sz true ⟨xs,J.heap,0,[]⟩).jV[j]?).low=0:=by grind [ayr,Gi]
  have aIm:(ahV (Gi j r.sz true ⟨xs,J.heap,0,[]⟩) (Gi j r.sz true ⟨xs,J.heap,0,[]⟩).jV[j]?).df=[]:=by grind [aBf,Gi]
  generalize hτ:ahV (Gi j r.sz true ⟨xs,J.heap,0,[]⟩) (Gi j r.sz true ⟨xs,J.heap,0,[]⟩).jV[j]? =τ at*;have i2:aef ⟨τ.jV,τ.heap,0,[]⟩ ⟨sZ (Xy 0 l) τ.jV,τ.heap.take 0++[y],0,[]⟩:=aaI hl (eo _) (by simp) h1 h2;have e:τ=⟨τ.jV,τ.heap,0,[]⟩:=by cases τ;grind
  rw[e]at i1;refine(i1.e.trans i2).trans ?_;simp only[List.take_zero,eJ];obtain⟨h5,h6⟩:=(wh (oaT true r) uA).ok [y] 1 _ _ hb;refine KB.e (ajd.imp (J:=⟨sZ (Xy 0 l) τ.jV,[y],0,[]⟩) (J':=⟨s.enc b a,(wh (oaT true r) uA).enc b,0,[]⟩) ⟨⟨⟨rfl,eo _⟩,rfl,aay⟩,?_,?_⟩)
  ·show EG [y] ((wh (oaT true r) uA).enc b).length _ _;rw[h6];exact s.ok b [y] 1 _ a (jC hd) ha
  grind
end aBq
def amL(i:Nat)(tN:Bool)(sz:Nat)(e:Ent):Ent:=fun args H=>
 match args[i]? with
 |some (.kW true _ [])=>e (args.set i (.lN H.length 0)) (H++[.lN tN sz []])
 |_=>e args H
def ajI{tN:Bool}{sz:Nat}{e:Ent}(h:VG P f e):VG P f (amL i tN sz e):=by
 intro args J r H' he;unfold amL at he;split at he
 ·rename_i s hi;have hc:=h (args.set i (.lN J.heap.length 0)) {J with heap:=J.heap++[.lN tN sz []]} r H' he;refine⟨hc.1,fun C U a w hP S vs hr=>?_⟩;have S0:mM C U ⟨J.jV++args,J.heap,J.low,J.df⟩ {tmps:=a.tmps++vs,defers:=a.defers} w:={S with jV:=by simpa using S.jV.append hr,defers:=S.defers}
  have nA:(J.jV++args)[J.jV.length+i]? =some (.kW true s []):=by
   grind
  obtain⟨U',S1⟩:=apl (J:=⟨J.jV++args,J.heap,J.low,J.df⟩) (sz:=sz) (tN:=tN) nA C U _ w S0
  have asj:(J.jV++args).set (J.jV.length+i) (.lN J.heap.length 0)=J.jV++args.set i (.lN J.heap.length 0):=by
   grind
  have hsl:=S1.jV;simp only[asj,eg]at hsl;have hsz:a.tmps.toList.length=J.jV.length:=S.jV.length;have h1:=hsl.take J.jV.length;have h2:=hsl.drop J.jV.length;rw[dW rfl,dW hsz]at h1;rw[dX rfl,dX hsz]at h2;have S2:mM C U' {J with heap:=J.heap++[.lN tN sz []]} a w:={S1 with jV:=h1,defers:=S1.defers};exact hc.2 C U' a w hP S2 vs h2
 ·exact h args J r H' he
def Uq(e e':Ent):Ent:=fun args H=>(e args H).or (e' args H)
def acq{e e':Ent}(h:VG P f e)(h':VG P f e'):VG P f (Uq e e'):=by
 intro args J r H' he;unfold Uq at he;rw[eK]at he;rcases he with he|⟨_,he⟩
 ·exact h args J r H' he
 ·exact h' args J r H' he
section
variable {M:kG R} {k:List Kt}
def atf{rest:List aJ8}{x}:wW M j8 dst rest k J (.move x)=tw M j8 dst rest k J (Xh M.P J (.move x)):=by rw[<-uL];rfl
def an0{rest:List aJ8}{x}:wW M j8 dst rest k J (.assign x)=tw M j8 dst rest k J (Xh M.P J (.assign x)):=by rw[<-uL];rfl
def atg{rest:List aJ8}{c}{a}{b}:wW M j8 dst rest k J (.pick c a b)=tw M j8 dst rest k J (Xh M.P J (.pick c a b)):=by rw[<-uL];rfl
def aqd{rest:List aJ8}{t}:wW M j8 dst rest k J (.alloc t)=tw M j8 dst rest k J (Xh M.P J (.alloc t)):=by rw[<-uL];rfl
def awb{rest:List aJ8}{t}{v}:wW M j8 dst rest k J (.box t v)=tw M j8 dst rest k J (Xh M.P J (.box t v)):=by rw[<-uL];rfl
def aqe{rest:List aJ8}{t}{ps}:wW M j8 dst rest k J (.build t ps)=tw M j8 dst rest k J (Xh M.P J (.build t ps)):=by rw[<-uL];rfl
def agu{rest:List aJ8}{t}{n}{ps}:wW M j8 dst rest k J (.buildSlice t n ps)=tw M j8 dst rest k J (Xh M.P J (.buildSlice t n ps)):=by rw[<-uL];rfl
def an1{rest:List aJ8}{m}{a}{b}{c}:wW M j8 dst rest k J (.insert m a b c)=tw M j8 dst rest k J (Xh M.P J (.insert m a b c)):=by rw[<-uL];rfl
def ath{rest:List aJ8}{t}{a}:wW M j8 dst rest k J (.load t a)=tw M j8 dst rest k J (Xh M.P J (.load t a)):=by rw[<-uL];rfl
def aqf{rest:List aJ8}{t}{a}{v}:wW M j8 dst rest k J (.store t a v)=tw M j8 dst rest k J (Xh M.P J (.store t a v)):=by rw[<-uL];rfl
def ajJ{rest:List aJ8}{x}:wW M j8 dst rest k J (.nilCheck x)=tw M j8 dst rest k J (Xh M.P J (.nilCheck x)):=by rw[<-uL];rfl
def aqg{rest:List aJ8}{o}{t}{x}{y}{u}:wW M j8 dst rest k J (.binOp o t x y u)=tw M j8 dst rest k J (Xh M.P J (.binOp o t x y u)):=by rw[<-uL];rfl
def ati{rest:List aJ8}{o}{t}{x}:wW M j8 dst rest k J (.unOp o t x)=tw M j8 dst rest k J (Xh M.P J (.unOp o t x)):=by rw[<-uL];rfl
def alg{rest:List aJ8}{s}{d}{x}:wW M j8 dst rest k J (.convert s d x)=tw M j8 dst rest k J (Xh M.P J (.convert s d x)):=by rw[<-uL];rfl
def acM{rest:List aJ8}{t}{x}:wW M j8 dst rest k J (.makeInterface t x)=tw M j8 dst rest k J (Xh M.P J (.makeInterface t x)):=by rw[<-uL];rfl
def ajK{rest:List aJ8}{f}{a}{b}:wW M j8 dst rest k J (.makeFunc f a b)=tw M j8 dst rest k J (Xh M.P J (.makeFunc f a b)):=by rw[<-uL];rfl
def alh{rest:List aJ8}{t}{r}:wW M j8 dst rest k J (.makeMap t r)=tw M j8 dst rest k J (Xh M.P J (.makeMap t r)):=by rw[<-uL];rfl
def ahW{rest:List aJ8}{t}{l}{c}:wW M j8 dst rest k J (.makeSlice t l c)=tw M j8 dst rest k J (Xh M.P J (.makeSlice t l c)):=by rw[<-uL];rfl
def aqh{rest:List aJ8}{t}{x}{l}{h}{m}:wW M j8 dst rest k J (.slice t x l h m)=tw M j8 dst rest k J (Xh M.P J (.slice t x l h m)):=by rw[<-uL];rfl
def ahX{rest:List aJ8}{t}{x}{f}:wW M j8 dst rest k J (.fieldAddr t x f)=tw M j8 dst rest k J (Xh M.P J (.fieldAddr t x f)):=by rw[<-uL];rfl
def aqi{rest:List aJ8}{t}{x}{f}:wW M j8 dst rest k J (.field t x f)=tw M j8 dst rest k J (Xh M.P J (.field t x f)):=by rw[<-uL];rfl
def ahY{rest:List aJ8}{t}{x}{i}:wW M j8 dst rest k J (.indexAddr t x i)=tw M j8 dst rest k J (Xh M.P J (.indexAddr t x i)):=by rw[<-uL];rfl
def aqj{rest:List aJ8}{t}{x}{i}:wW M j8 dst rest k J (.index t x i)=tw M j8 dst rest k J (Xh M.P J (.index t x i)):=by rw[<-uL];rfl
def an2{rest:List aJ8}{t}{x}{i}{b}:wW M j8 dst rest k J (.lookup t x i b)=tw M j8 dst rest k J (Xh M.P J (.lookup t x i b)):=by rw[<-uL];rfl
def ahZ{rest:List aJ8}{t}{m}{kk}{v}:wW M j8 dst rest k J (.mapUpdate t m kk v)=tw M j8 dst rest k J (Xh M.P J (.mapUpdate t m kk v)):=by rw[<-uL];rfl
def aqk{rest:List aJ8}{t}{x}:wW M j8 dst rest k J (.range t x)=tw M j8 dst rest k J (Xh M.P J (.range t x)):=by rw[<-uL];rfl
def atj{rest:List aJ8}{i}{b}:wW M j8 dst rest k J (.next i b)=tw M j8 dst rest k J (Xh M.P J (.next i b)):=by rw[<-uL];rfl
def agv{rest:List aJ8}{x}{t}{u}{b}:wW M j8 dst rest k J (.typeAssert x t u b)=tw M j8 dst rest k J (Xh M.P J (.typeAssert x t u b)):=by rw[<-uL];rfl
def ali{rest:List aJ8}{t}{i}:wW M j8 dst rest k J (.extract t i)=tw M j8 dst rest k J (Xh M.P J (.extract t i)):=by rw[<-uL];rfl
def atk{rest:List aJ8}{c}:wW M j8 dst rest k J (.call c)=tw M j8 dst rest k J (Xh M.P J (.call c)):=by rw[<-uL];rfl
def aql{rest:List aJ8}{c:Call}:wW M j8 dst rest k J (.defer c)=auQ M j8 dst rest k J (Hg J (.defer c)):=rfl
def aqm{rest:List aJ8}{x:Operand}:wW M j8 dst rest k J (.panic x)=auR M k J (Vv J (.panic x)):=rfl
def ajL{a:W}{x:Option R}:ny (a=a) x=x:=by simp [ny]
def atl{rest:List aJ8}:aee M p o rest j tr k J none=Ak M p o.dst rest j tr k J (Xh M.P J o.op):=by rw[<-uL];rfl
end
section
variable {M:kG R} {k:List Kt}
def atm{rest:List aJ8}{x y:Option vW}:tw M j8 dst rest k J (bif b then x else y)=bif b then tw M j8 dst rest k J x else tw M j8 dst rest k J y:=by cases b<;>rfl
def atn{rest:List aJ8}{x y:Option (AV×List jT)}:Qt M j8 dst rest k J (bif b then x else y)=bif b then Qt M j8 dst rest k J x else Qt M j8 dst rest k J y:=by cases b<;>rfl
def aqn{rest:List aJ8}{x y:Option vW}:Ak M p dst rest j tr k J (bif b then x else y)=bif b then Ak M p dst rest j tr k J x else Ak M p dst rest j tr k J y:=by cases b<;>rfl
end
def ayu:undef=.tuple #[]:=rfl
def awc:(¬ True)=False:=by simp
def ato(n:Nat):(0<=(n:Int))=True:=by simp
def aqo:((0:Int)<=0)=True:=by simp
def awd{x y:W}:(bif !b then x else y)=bif b then y else x:=by cases b<;>rfl
def awe{x:W}:(bif b then x else x)=x:=by cases b<;>rfl
def aEa:(b==true)=b:=by cases b<;>rfl
def aEb:(b==false)= !b:=by cases b<;>rfl
def awf{p:Prop}[Decidable p]{a b:Option W}{f:W->Option O}:(if p then a else b).bind f=bif decide p then a.bind f else b.bind f:=by
 by_cases h:p<;>simp [h]
def aEc(f:W->O)(xs:List W)(i:Nat):(mp f xs)[i]? =eR f xs[i]? :=by rw[qD,eA]
def aEd(f:W->O)(xs:List W)(i:Nat)(x:W):(mp f xs).set i (f x)=mp f (xs.set i x):=by rw[qD,qD,List.map_set]
def atp {b:Nat}{x:Option R}:ny (room a b) x=bif decide (a*b<=17592186044416)then x else none:=by
 unfold room;exact amB
def awg{a b:Int}{x:Option R}:ny (a<b) x=bif decide (a<b)then x else none:=amB
theorem NI(s:Str):(sb s).size=s.length:=by simp [sb,ByteArray.size]
def ayv(s:Str)(i:Nat):(sb s)[i]? =s[i]? :=by
 by_cases h:i<s.length
 ·have h':i<(sb s).size:=by rw[NI];exact h
  rw[dR h,getElem?_pos (sb s) i h'];rfl
 grind [NI]
def aEe(s:Str)(n:Int):aBb (sb s) n=Ab s n:=by
 simp only[aBb,ayv];rfl
theorem VK(s:Str):(sb s).toList=s:=by
 rw[ByteArray.toList_eq];rfl
def atq(s:Str)(a b:Nat):(sb s).extract a b=sb ((s.take b).drop a):=by
 apply ByteArray.ext
 grind [sb,ByteArray.data_extract,List.drop_take]
def awh(s t:Str):sb s++sb t=sb (s++t):=by
 apply ByteArray.ext;simp [sb]
def ayw:ByteArray.empty=sb []:=rfl
def awi:(⟨#[]⟩:ByteArray)=sb []:=rfl
def aEf(l:List UInt8):(⟨l.toArray⟩:ByteArray)=sb l:=rfl
attribute [go_sem] aAF aAG apE anP wq asy asz apK anR aDL asF anS asG avW asH apM asI asJ apO apP avX apN asD apH apI apJ asB avU asC ayb apF aFT aDN aDO agq asw stP VD ajL aiI aDP aAI ayc asK apR asL asU asV asW atf an0 atg aqd awb aqe agu an1 ath aqf ajJ aqg ati alg acM ajK alh ahW aqh ahX aqi ahY aqj an2 ahZ aqk atj agv ali atk aql aqm avZ av0 asM asO asQ asR asS anQ Hg Vv jJ.dfr ap4 as4 as5 apU apV Qs av2 Hf asX asY asZ av1 as0 ajx as1 apS anT apT atl apW apX apY as7 apZ ap0 ap1 atm atn aqn sub ae8 ajl wg ass acm atp awg
attribute [go_sem low] asE avY as3
attribute [go_sem] ayd av4 ahp av5 as9 av6 ata yD aAL M3 aAJ aAK aEc aEd awf as8 av7 aye ayf Jk dL aAM aAN aaF Qu KH ayh av9 aAO aAP aAQ aAR aAS aAT aDR aAU aAV dI1 dB1 dS1 aDV aDW aDX agt JG dC aAW aAX aAY aAZ d2 d3 d4 d5 aA0 aA1 aA2 aA3 aA4 aA5 aA6 aA7 oB ajE oI tj acL rq nE M5 aH6 aH7 aH8 aH5 dLt ahU aH9 aIa aIb aIc aId atb aA8 Gi auU anX anY aD2 sj aD0 aym aD1 ayn ixA ixS ldA ldV vwL stA Xh awd awe aEa aEb NI aEe ayv VK awh atq ayw awi aEf Ky zB aeI Kw ai1 ixP ayo aAi auy aci aD4 aD5 aFW awa atd mE ap5 amJ aaH rp1 rpV rpO aIf aIg aIh aIi aIj dL1 dF1 dP aBg aBh dK1 dK2 dK3 aD7 aD8 aD9 daT dcT aF0 aF1 aF2 aF3 aBi aF4 aF5 aBj aF6 aBk uv ajG aF8 aF9 aBl aGa aBm aGb aBn ays nameAt Jm ahq Bh amL Uq Option.or_none Option.none_or ate ate.ayt si oP AV.qc sZ Gc Xy qx nk kQ jJ.ev jJ.put mh AV.qM Kx Xm Xn amh ad5 amj af5 eqB eq1 Ca acf aeL Xo Ql Qm acg amk MV Pj Bg ajk frz ak9 ayu ey List.all_nil Bool.and_true Bool.true_and Bool.and_false Bool.false_and jE if_false List.getD_cons_zero List.getD_cons_succ eb List.length_nil dU List.cons_append eJ List.set_cons_zero List.set_cons_succ reduceCtorEq and_true true_and List.append_nil Nat.zero_add eD eE List.getElem?_nil ep List.drop_zero List.drop_succ_cons List.drop_nil List.take_succ_cons List.take_zero List.take_nil ne_eq awc Option.isSome_some Option.isSome_none Option.isNone_some Option.isNone_none eO List.map_nil List.getElem?_toArray Bool.not_true Bool.not_false jy jz Int.toNat_natCast ato aqo true_or or_true and_self false_or or_false eG List.set_nil decide_true decide_false Bool.not_not and_false false_and List.length_append eH List.length_replicate beq_self_eq_true as2 tP asx vW.idle M2 CN JC List.contains_cons List.contains_nil eB List.isEmpty_cons Bool.or_false Bool.false_or Bool.or_true Bool.true_or dZ Bool.false_eq_true Int.cast_ofNat_Int Int.toNat_zero Int.toNat_one List.flatten_cons List.flatten_nil eu eF Option.map_none
def ajM{n:Nat}:∀{a b:List (List AV)},NC n (a++b)=(NC n a/\NC n b)
 |[],_=>by simp [NC]
 |x::a,b=>by simp [NC,ajM (a:=a),and_assoc]
def aqp{c:AV}:mN false n (c::cs)=some c:=rfl
def aqq{c:AV}:mN true n (c::cs)=if n<=(c::cs).length then some (.agg ((c::cs).take n))else none:=rfl
def aqr{c:AV}:cellsOf (.agg (c::cs))=if (c::cs).all AV.qM then some (c::cs)else none:=rfl
def aqs:(∀b,cellsOf (.bool b)=some [.bool b])/\(∀k n,cellsOf (.int k n)=some [.int k n])/\(∀s,cellsOf (.str s)=some [.str s])/\(∀t sz r,cellsOf (.kW t sz r)=some [.kW t sz r])/\
 (∀l n,cellsOf (.lN l n)=some [.lN l n])/\(∀a b c d e,cellsOf (.own a b c d e)=some [.own a b c d e])/\(∀a b,cellsOf (.ptr a b)=some [.ptr a b])/\(∀a,cellsOf (.map a)=some [.map a])/\
 (∀cs,cellsOf (.pp cs)=some [.pp cs])/\(∀fn f c,cellsOf (.func fn f c)=some [.func fn f c])/\(∀t x,cellsOf (.iface t x)=some [.iface t x])/\cellsOf (.sO .nilFunc)=some [.sO .nilFunc]/\cellsOf (.sO .nilIface)=some [.sO .nilIface]/\
 (∀a,cellsOf (.sO (.pointer a))=some [.sO (.pointer a)])/\(∀a,cellsOf (.sO (.map a))=some [.sO (.map a)]):=
 ⟨fun _=>rfl,fun _ _=>rfl,fun _=>rfl,fun _ _ _=>rfl,fun _ _=>rfl,fun _ _ _ _ _=>rfl,fun _ _=>rfl,fun _=>rfl,fun _=>rfl,fun _ _ _=>rfl,fun _ _=>rfl,rfl,rfl,fun _=>rfl,fun _=>rfl⟩
def atr{c:AV}{o:Nat}{xs:List AV}:wm (c::cs) o xs=(c::cs).take o++xs++(c::cs).drop (o+xs.length):=rfl
def att {xs:List AV}(h:xs.length=cs.length):wm cs 0 xs=xs:=by
 grind [wm]
attribute [go_sem] aqp aqq aqr aqs att
attribute [go_sem low] atr
attribute [go_sem] AV.nb w5 NC rJ ajM or_true
theorem awj:∀x:AV,x.nb 0->rp1 l cs x=x
 |.ptr _ _,h=>absurd h (eI _)
 |.any,_|.bool _,_|.int _ _,_|.str _,_|.sO _,_|.agg _,_|.Ip _,_|.kW _ _ _,_|.lN _ _,_|.own _ _ _ _ _,_|.map _,_|.pp _,_|.func _ _ _,_|.iface _ _,_|.sn _ _,_=>rfl
theorem aeg{l:Nat}{cs:List AV}:∀xs:List AV,w5 0 xs->xs.map (rp1 l cs)=xs
 |[],_=>rfl
 |x::xs,h=>by rw[eO,awj x h.1,aeg xs h.2]
theorem awk:∀x:AV,x.nb 0->rpV l cs x=x
 |.ptr _ _,h=>absurd h (eI _)
 |.func _ f c,h=>by simp only[rpV];rw[aeg f h.1,aeg c h.2]
 |.any,_|.bool _,_|.int _ _,_|.str _,_|.sO _,_|.agg _,_|.Ip _,_|.kW _ _ _,_|.lN _ _,_|.own _ _ _ _ _,_|.map _,_|.pp _,_|.iface _ _,_|.sn _ _,_=>rfl
theorem ajN{l:Nat}{cs:List AV}:∀xs:List AV,w5 0 xs->xs.map (rpV l cs)=xs
 |[],_=>rfl
 |x::xs,h=>by rw[eO,awk x h.1,ajN xs h.2]
def ajO(P:aKc):Nat->List Field->List AV->List AV->Prop
 |_,[],[],[]=>True
 |o,f::fs,c::cs,d::ds=>(f.name≠ "_" /\f.offset=o/\P.plainKey f.type=true/\(match c,d with
  |.int k _,.int k' _=>k=k'/\∃q,P.underlying f.type=some (.int q)
  |.bool _,.bool _=>P.underlying f.type=some .bool
  |.str _,.str _=>P.underlying f.type=some .string
  |_,_=>False))/\ajO P (o+1) fs cs ds
 |_,_,_,_=>False
def adv{P:aKc}{E:Dw}{vs us:Array aKb}{w:aKd}{d:Nat}:∀(fs:List Field)(o:Nat)(cs ds:List AV),ajO P o fs cs ds->ko E cs (vs.toList.drop o)->ko E ds (us.toList.drop o)->
 (Op.eqFields (d+1) vs us fs).run P w=.ok (eqB cs ds) w
 |[],_,[],[],_,_,_=>by simp [Op.eqFields,eqB]
 |[],_,_::_,_,h,_,_=>h.elim
 |[],_,[],_::_,h,_,_=>h.elim
 |_::_,_,[],_,h,_,_=>h.elim
 |_::_,_,_::_,[],h,_,_=>h.elim
 |f::fs,o,c::cs,e::ds,⟨⟨h1,h2,h3,h4⟩,h5⟩,r1,r2=>by
  obtain⟨u,us',e1,r1,r1'⟩:=r1;obtain⟨v,vs',e2,r2,r2'⟩:=r2
  have g1:vs[f.offset]? =some u:=by
   have:=congrArg (fun l:List aKb=>l[0]?) e1;rw[h2];simpa using this
  have g2:us[f.offset]? =some v:=by
   have:=congrArg (fun l:List aKb=>l[0]?) e2;rw[h2];simpa using this
  have t1:vs.toList.drop (o+1)=us':=by
   have:=congrArg List.tail e1;simpa using this
  have t2:us.toList.drop (o+1)=vs':=by
   have:=congrArg List.tail e2;simpa using this
  have ih:=adv (d:=d) (w:=w) fs (o+1) cs ds h5 (by rw[t1];exact r1') (by rw[t2];exact r2')
  have zf:(Op.equalIn (d+1) f.type u v).run P w=.ok (eq1 c e) w:=by
   cases c<;>cases e<;>try exact h4.elim
   ·cases r1;cases r2;exact run_equalIn_bool _ d f.type _ _ h4
   ·obtain⟨rfl,q,hq⟩:=h4;cases r1;cases r2;exact run_equalIn_int _ d f.type _ q _ _ hq
   ·cases r1;cases r2;exact run_equalIn_string _ d f.type _ _ h4
  simp only[Op.eqFields,h1,ne_eq,not_false_eq_true,jE,Sem.run_bind,run_part_plain w h3 g1,run_part_plain w h3 g2,zf,Result.andThen_ok,eqB];cases eq1 c e
  ·simp
  ·simpa using ih
def atu{t:TypeId}(ht:P.underlying t=some (.struct (P.fieldsOf t)))(hp:P.stoodInHeld t=false)(hg:P.eqGuardType P.depth t=false)
 (hf:ajO P 0 (P.fieldsOf t).toList cs ds):ami P t cs ds:=by
 intro E vs us w x y h1 h2
 have hq:(Op.equal t (.agg vs) (.agg us)).run P w=.ok (eqB cs ds) w:=by
  show(Op.equalIn (9999+1) t _ _).run P w=_;rw[run_equalIn_struct w 9999 t vs us ht hp];exact adv (d:=9998) _ 0 cs ds hf (by simpa using h1) (by simpa using h2)
 simp_all [eqGuard,binOp]
mutual
theorem acr{τ τ':Nat->Nat}{n:Nat}(h:∀l,l<n->τ l=τ' l):∀x:AV,x.nb n->x.qc τ=x.qc τ'
 |.agg cs,k|.Ip cs,k|.pp cs,k=>by simp only[AV.qc];rw[DR h cs k]
 |.kW _ _ rows,k=>by simp only[AV.qc];rw[aeh h rows k]
 |.lN l _,k|.own l _ _ _ _,k|.ptr l _,k|.map l,k|.sn _ l,k=>by simp only[AV.qc];rw[h l k]
 |.func _ f c,k=>by simp only[AV.qc];rw[DR h f k.1,DR h c k.2]
 |.iface _ x,k=>by simp only[AV.qc];rw[acr h x k]
 |.any,_|.bool _,_|.int _ _,_|.str _,_|.sO _,_=>rfl
theorem DR{τ τ':Nat->Nat}{n:Nat}(h:∀l,l<n->τ l=τ' l):∀xs:List AV,w5 n xs->sZ τ xs=sZ τ' xs
 |[],_=>rfl
 |x::xs,k=>by simp only[sZ];rw[acr h x k.1,DR h xs k.2]
theorem aeh{τ τ':Nat->Nat}{n:Nat}(h:∀l,l<n->τ l=τ' l):∀xs:List (List AV),NC n xs->Gc τ xs=Gc τ' xs
 |[],_=>rfl
 |x::xs,k=>by simp only[Gc];rw[DR h x k.1,aeh h xs k.2]
end
mutual
def ayx{τ:Nat->Nat}{n m:Nat}(h:∀l,l<n->τ l<m):∀x:AV,x.nb n->(x.qc τ).nb m
 |.agg cs,k|.Ip cs,k|.pp cs,k=>XF h cs k
 |.kW _ _ rows,k=>auY h rows k
 |.lN l _,k|.own l _ _ _ _,k|.ptr l _,k|.map l,k|.sn _ l,k=>h l k
 |.func _ f c,k=>⟨XF h f k.1,XF h c k.2⟩
 |.iface _ x,k=>ayx h x k
 |.any,_|.bool _,_|.int _ _,_|.str _,_|.sO _,_=>trivial
def XF{τ:Nat->Nat}{n m:Nat}(h:∀l,l<n->τ l<m):∀xs:List AV,w5 n xs->w5 m (sZ τ xs)
 |[],_=>trivial
 |x::xs,k=>⟨ayx h x k.1,XF h xs k.2⟩
def auY{τ:Nat->Nat}{n m:Nat}(h:∀l,l<n->τ l<m):∀xs:List (List AV),NC n xs->NC m (Gc τ xs)
 |[],_=>trivial
 |x::xs,k=>⟨XF h x k.1,auY h xs k.2⟩
end
theorem afd {τ':Nat->Nat}(h:∀l,l<n->τ l=τ' l)(x:jT)(k:rJ n x):x.qc τ=x.qc τ':=by
 cases x with
 |cells cs=>simp only[jT.qc];rw[DR h cs k]
 |lN tN sz rows=>simp only[jT.qc];rw[aeh h rows k]
 |map es=>
  simp only[jT.qc];congr 1;refine ek fun p hp=>?_
  rw[acr h _ (k p hp).1,acr h _ (k p hp).2]
 |loop lk jV st uu=>simp only[jT.qc];rw[DR h jV k]
 |iter s p=>rfl
 |Io s=>rfl
 |xu=>rfl
def Co1.XG {y:AV}(h:Co1 [] n x y):LY x y:=by
 rcases h with h|⟨l,m,sz,rows,_,h,_⟩
 ·exact h.1
 ·simp at h
def n7.XG:∀{xs ys:List AV},n7 [] n xs ys->q8 xs ys
 |[],_,rfl=>q8.nil
 |_::_,_,⟨_,_,rfl,h,hs⟩=>q8.cons h.XG hs.XG
def Co.XG {y:AV}(h:Co [] n x y):LY x y:=by
 rcases h with h|⟨cs,ds,rfl,rfl,h⟩
 ·exact h.XG
 ·rintro E v ⟨vs,rfl,hv⟩;exact⟨vs,rfl,h.XG E _ hv⟩
def q8.func{f:Fn}{xs:List AV}(h:q8 xs ys):LY (.func f [] xs) (.func f [] ys):=by
 rintro E v ⟨a,b,rfl,h1,h2⟩;exact⟨a,b,rfl,h1,h E _ h2⟩
abbrev DS:=Nat->Nat
variable {L:DS}
def atN(Y:List Nat)(k:Nat):Nat:=Y.getD k 0
def Cov(Y:List Nat)(lr n:Nat):Prop:=∀k,k<lr->∃l,Y[k]? =some l/\l<n
def Cov.mono {b:Nat}(h:Cov Y b n)(k:a<=b):Cov Y a n:=fun i hi=>h i (by omega)
def Cov.lt(h:Cov Y a n):∀l,l<a->atN Y l<n:=by
 intro l hl;obtain⟨k,hk,hn⟩:=h l hl
 grind [atN]
theorem aaJ(h:Y[k]? =some l):atN Y k=l:=by unfold atN;rw[List.getD,h];rfl
section aGf
variable {γ δ:Type}
structure VL(γ:Type) where
 enc:DS->γ->List AV
 mo:List Nat->DS->List AV->Option γ
 lr:Nat
 nb:∀L g,w5 lr (enc L g)
 ok:∀Y L vs g,mo Y L vs=some g->q8 vs (sZ (atN Y) (enc L g))
def atv:List AV->Option Unit
 |[]=>some ()
 |_=>none
def vlN:VL Unit where
 enc _ _:=[]
 mo _ _:=atv
 lr:=0
 nb _ _:=trivial
 ok Y L vs g h:=by
  unfold atv at h;split at h
  ·exact q8.nil
  ·cases h
def aBr(t:Ty γ)(s:VL δ)(Y:List Nat)(L:DS):List AV->Option (γ×δ)
 |x::xs=>(t.mo [] x).bind fun y=>(s.mo Y L xs).bind fun a=>some (y,a)
 |[]=>none
def vlT(t:Ty γ)(s:VL δ):VL (γ×δ) where
 enc L g:=t.enc g.1::s.enc L g.2
 mo:=aBr t s
 lr:=s.lr
 nb L g:=⟨t.nb _ _,s.nb L g.2⟩
 ok Y L vs g h:=by
  unfold aBr at h;split at h
  ·simp only[dM,dN]at h;obtain⟨y,hy,a,ha,rfl⟩:=h;refine q8.cons ?_ (s.ok Y L _ _ ha);rw[M1 _ _ (t.nb 0 y)];exact(t.ok [] 0 _ _ hy).XG
  ·cases h
def aBs(k:Nat)(s:VL δ)(Y:List Nat)(L:DS):List AV->Option δ
 |.ptr l off::xs=>bif decide (off=0/\Y[k]? =some l)then s.mo Y L xs else none
 |_=>none
def vlP (k:Nat) (s:VL δ):VL δ where
 enc L g:=.ptr k 0::s.enc L g
 mo:=aBs k s
 lr:=max (k+1) s.lr
 nb L g:=⟨show k<_ by omega,sY (by omega) _ (s.nb L g)⟩
 ok Y L vs g h:=by
  unfold aBs at h;split at h
  ·rename_i l off xs;cases hc:decide (off=0/\Y[k]? =some l)with
   |false=>simp [hc]at h
   |true=>
    simp only[hc,jy]at h;obtain⟨rfl,hc'⟩:=jC hc;refine q8.cons ?_ (s.ok Y L _ _ h)
    grind [AV.qc,aaJ,LY.refl]
  ·cases h
def aBt(k:Nat)(s:VL δ)(Y:List Nat)(L:DS):List AV->Option δ
 |.map l::xs=>bif decide (Y[k]? =some l)then s.mo Y L xs else none
 |_=>none
def vlM (k:Nat) (s:VL δ):VL δ where
 enc L g:=.map k::s.enc L g
 mo:=aBt k s
 lr:=max (k+1) s.lr
 nb L g:=⟨show k<_ by omega,sY (by omega) _ (s.nb L g)⟩
 ok Y L vs g h:=by
  unfold aBt at h;split at h
  ·rename_i l xs;cases hc:decide (Y[k]? =some l)with
   |false=>simp [hc]at h
   |true=>
    simp only[hc,jy]at h;have hc:=jC hc;refine q8.cons ?_ (s.ok Y L _ _ h)
    grind [AV.qc,aaJ,LY.refl]
  ·cases h
def aBu(f:aKa)(c:VL γ)(s:VL δ)(Y:List Nat)(L:DS):List AV->Option (γ×δ)
 |.func (.func f') [] cs::xs=>bif decide (f'=f)then(c.mo Y L cs).bind fun y=>(s.mo Y L xs).bind fun a=>some (y,a)else none
 |_=>none
def vlF (f:aKa) (c:VL γ) (s:VL δ):VL (γ×δ) where
 enc L g:=.func (.func f) [] (c.enc L g.1)::s.enc L g.2
 mo:=aBu f c s
 lr:=max c.lr s.lr
 nb L g:=⟨⟨trivial,sY (by omega) _ (c.nb L g.1)⟩,sY (by omega) _ (s.nb L g.2)⟩
 ok Y L vs g h:=by
  unfold aBu at h;split at h
  ·rename_i f' cs xs;cases hc:decide (f'=f)with
   |false=>simp [hc]at h
   |true=>
    simp only[hc,jy,dM,dN]at h;obtain⟨y,hy,a,ha,rfl⟩:=h;obtain rfl:=jC hc;refine q8.cons ?_ (s.ok Y L _ _ ha);simp only[AV.qc,sZ];exact(c.ok Y L _ _ hy).func
  ·cases h
def aGg:(∀L g,vlN.enc L g=[])/\∀Y L xs,vlN.mo Y L xs=atv xs:=⟨fun _ _=>rfl,fun _ _ _=>rfl⟩
def aGh{t:Ty γ}{s:VL δ}:(∀L g,(vlT t s).enc L g=t.enc g.1::s.enc L g.2)/\∀Y L xs,(vlT t s).mo Y L xs=aBr t s Y L xs:=⟨fun _ _=>rfl,fun _ _ _=>rfl⟩
def aGi{s:VL δ}:(∀L g,(vlP k s).enc L g=.ptr k 0::s.enc L g)/\∀Y L xs,(vlP k s).mo Y L xs=aBs k s Y L xs:=⟨fun _ _=>rfl,fun _ _ _=>rfl⟩
def aGj{s:VL δ}:(∀L g,(vlM k s).enc L g=.map k::s.enc L g)/\∀Y L xs,(vlM k s).mo Y L xs=aBt k s Y L xs:=⟨fun _ _=>rfl,fun _ _ _=>rfl⟩
def aGk{c:VL γ}{s:VL δ}:(∀L g,(vlF f c s).enc L g=.func (.func f) [] (c.enc L g.1)::s.enc L g.2)/\∀Y L xs,(vlF f c s).mo Y L xs=aBu f c s Y L xs:=⟨fun _ _=>rfl,fun _ _ _=>rfl⟩
structure AL(γ:Type) where
 enc:DS->γ->List AV
 mo:List Nat->DS->List jT->List AV->Option γ
 lr:Nat
 nb:∀L g,w5 lr (enc L g)
 ok:∀Y L H n vs g,Cov Y lr n->mo Y L H vs=some g->EG H n vs (sZ (atN Y) (enc L g))
def kr:AL Unit where
 enc _ _:=[]
 mo _ _ _:=atv
 lr:=0
 nb _ _:=trivial
 ok Y L H n vs g _ h:=by
  unfold atv at h;split at h
  ·exact EG.nil
  ·cases h
def aBv(t:Ty γ)(s:AL δ)(Y:List Nat)(L:DS)(H:List jT):List AV->Option (γ×δ)
 |x::xs=>(t.mo H x).bind fun y=>(s.mo Y L H xs).bind fun a=>some (y,a)
 |[]=>none
def lw(t:Ty γ)(s:AL δ):AL (γ×δ) where
 enc L g:=t.enc g.1::s.enc L g.2
 mo:=aBv t s
 lr:=s.lr
 nb L g:=⟨t.nb _ _,s.nb L g.2⟩
 ok Y L H n vs g hc h:=by
  unfold aBv at h;split at h
  ·simp only[dM,dN]at h;obtain⟨y,hy,a,ha,rfl⟩:=h;refine EG.cons ?_ (s.ok Y L H n _ _ hc ha);rw[M1 _ _ (t.nb 0 y)];exact t.ok H n _ _ hy
  ·cases h
def aBw(c:VF γ)(k:Nat)(s:AL δ)(Y:List Nat)(L:DS)(H:List jT)(xs:List AV):Option (γ×δ):=
 (c.mo H (xs.take k)).bind fun y=>(s.mo Y L H (xs.drop k)).bind fun a=>some (y,a)
def n7.auZ:∀{xs ys us vs:List AV},n7 H n xs ys->EG H n us vs->EG H n (xs++us) (ys++vs)
 |[],_,_,_,rfl,h=>h
 |_::_,_,_,_,⟨y,zs,rfl,h,hs⟩,h2=>⟨y,zs++_,rfl,.inl h,n7.auZ hs h2⟩
def alC(c:VF γ)(k:Nat)(s:AL δ):AL (γ×δ) where
 enc L g:=c.enc g.1++s.enc L g.2
 mo:=aBw c k s
 lr:=s.lr
 nb L g:=DQ (c.nb _ _) (s.nb L g.2)
 ok Y L H n vs g hc h:=by
  unfold aBw at h;simp only[dM,dN]at h;obtain⟨y,hy,a,ha,rfl⟩:=h;rw[aaz,rR _ _ (c.nb 0 y),<-eL k vs];exact n7.auZ (c.ok H n _ _ hy) (s.ok Y L H n _ _ hc ha)
def aBx(k:Nat)(s:AL δ)(Y:List Nat)(L:DS)(H:List jT):List AV->Option δ
 |.ptr l off::xs=>bif decide (off=0/\Y[k]? =some l)then s.mo Y L H xs else none
 |_=>none
def lH (k:Nat) (s:AL δ):AL δ where
 enc L g:=.ptr k 0::s.enc L g
 mo:=aBx k s
 lr:=max (k+1) s.lr
 nb L g:=⟨show k<_ by omega,sY (by omega) _ (s.nb L g)⟩
 ok Y L H n vs g hv h:=by
  unfold aBx at h;split at h
  ·rename_i l off xs;cases hc:decide (off=0/\Y[k]? =some l)with
   |false=>simp [hc]at h
   |true=>
    simp only[hc,jy]at h;obtain⟨rfl,hc'⟩:=jC hc;refine EG.cons ?_ (s.ok Y L H n _ _ (hv.mono (by omega)) h);have hl:=hv.lt k (by omega);simp only[AV.qc];rw[aaJ hc']at hl ⊢;exact Co.same hl
  ·cases h
def aBy(k:Nat)(s:AL δ)(Y:List Nat)(L:DS)(H:List jT):List AV->Option δ
 |.map l::xs=>bif decide (Y[k]? =some l)then s.mo Y L H xs else none
 |_=>none
def alM (k:Nat) (s:AL δ):AL δ where
 enc L g:=.map k::s.enc L g
 mo:=aBy k s
 lr:=max (k+1) s.lr
 nb L g:=⟨show k<_ by omega,sY (by omega) _ (s.nb L g)⟩
 ok Y L H n vs g hv h:=by
  unfold aBy at h;split at h
  ·rename_i l xs;cases hc:decide (Y[k]? =some l)with
   |false=>simp [hc]at h
   |true=>
    simp only[hc,jy]at h;have hc':=jC hc;refine EG.cons ?_ (s.ok Y L H n _ _ (hv.mono (by omega)) h);have hl:=hv.lt k (by omega);simp only[AV.qc];rw[aaJ hc']at hl ⊢;exact Co.same hl
  ·cases h
def aBz(k:Nat)(s:AL δ)(Y:List Nat)(L:DS)(H:List jT):List AV->Option δ
 |.lN l m::xs=>bif decide (m=L k/\Y[k]? =some l)then s.mo Y L H xs else none
 |_=>none
def alA (k:Nat) (s:AL δ):AL δ where
 enc L g:=.lN k (L k)::s.enc L g
 mo:=aBz k s
 lr:=max (k+1) s.lr
 nb L g:=⟨show k<_ by omega,sY (by omega) _ (s.nb L g)⟩
 ok Y L H n vs g hv h:=by
  unfold aBz at h;split at h
  ·rename_i l m xs;cases hc:decide (m=L k/\Y[k]? =some l)with
   |false=>simp [hc]at h
   |true=>
    simp only[hc,jy]at h;obtain⟨rfl,hc'⟩:=jC hc;refine EG.cons ?_ (s.ok Y L H n _ _ (hv.mono (by omega)) h);have hl:=hv.lt k (by omega);simp only[AV.qc];rw[aaJ hc']at hl ⊢;exact Co.same hl
  ·cases h
def aBA(f:aKa)(c:VL γ)(s:AL δ)(Y:List Nat)(L:DS)(H:List jT):List AV->Option (γ×δ)
 |.func (.func f') [] cs::xs=>bif decide (f'=f)then(c.mo Y L cs).bind fun y=>(s.mo Y L H xs).bind fun a=>some (y,a)else none
 |_=>none
def alF (f:aKa) (c:VL γ) (s:AL δ):AL (γ×δ) where
 enc L g:=.func (.func f) [] (c.enc L g.1)::s.enc L g.2
 mo:=aBA f c s
 lr:=max c.lr s.lr
 nb L g:=⟨⟨trivial,sY (by omega) _ (c.nb L g.1)⟩,sY (by omega) _ (s.nb L g.2)⟩
 ok Y L H n vs g hv h:=by
  unfold aBA at h;split at h
  ·rename_i f' cs xs;cases hc:decide (f'=f)with
   |false=>simp [hc]at h
   |true=>
    simp only[hc,jy,dM,dN]at h;obtain⟨y,hy,a,ha,rfl⟩:=h;obtain rfl:=jC hc;refine EG.cons ?_ (s.ok Y L H n _ _ (hv.mono (by omega)) ha);simp only[AV.qc,sZ];exact Co.sub (c.ok Y L _ _ hy).func ⟨trivial,XF (hv.mono (a:=c.lr) (by omega)).lt _ (c.nb L y)⟩
  ·cases h
def aBB(s:AL δ)(Y:List Nat)(L:DS)(H:List jT):List AV->Option δ
 |_::xs=>s.mo Y L H xs
 |_=>none
def alZ(s:AL δ):AL δ where
 enc L g:=.any::s.enc L g
 mo:=aBB s
 lr:=s.lr
 nb L g:=⟨trivial,s.nb L g⟩
 ok Y L H n vs g hv h:=by
  unfold aBB at h;split at h
  ·exact EG.cons Co.any (s.ok Y L H n _ _ hv h)
  ·cases h
def afe:Nat->AL δ->AL δ
 |0,s=>s
 |n+1,s=>alZ (afe n s)
def aGl:(∀L g,kr.enc L g=[])/\(∀Y L H xs,kr.mo Y L H xs=atv xs)/\kr.lr=0:=⟨fun _ _=>rfl,fun _ _ _ _=>rfl,rfl⟩
def aGm{t:Ty γ}{s:AL δ}:(∀L g,(lw t s).enc L g=t.enc g.1::s.enc L g.2)/\(∀Y L H xs,(lw t s).mo Y L H xs=aBv t s Y L H xs)/\(lw t s).lr=s.lr:=⟨fun _ _=>rfl,fun _ _ _ _=>rfl,rfl⟩
def aGn{c:VF γ}{s:AL δ}:(∀L g,(alC c k s).enc L g=c.enc g.1++s.enc L g.2)/\(∀Y L H xs,(alC c k s).mo Y L H xs=aBw c k s Y L H xs)/\(alC c k s).lr=s.lr:=⟨fun _ _=>rfl,fun _ _ _ _=>rfl,rfl⟩
def aGo{s:AL δ}:(∀L g,(lH k s).enc L g=.ptr k 0::s.enc L g)/\(∀Y L H xs,(lH k s).mo Y L H xs=aBx k s Y L H xs)/\(lH k s).lr=max (k+1) s.lr:=⟨fun _ _=>rfl,fun _ _ _ _=>rfl,rfl⟩
def aGp{s:AL δ}:(∀L g,(alM k s).enc L g=.map k::s.enc L g)/\(∀Y L H xs,(alM k s).mo Y L H xs=aBy k s Y L H xs)/\(alM k s).lr=max (k+1) s.lr:=⟨fun _ _=>rfl,fun _ _ _ _=>rfl,rfl⟩
def aGq{s:AL δ}:(∀L g,(alA k s).enc L g=.lN k (L k)::s.enc L g)/\(∀Y L H xs,(alA k s).mo Y L H xs=aBz k s Y L H xs)/\(alA k s).lr=max (k+1) s.lr:=⟨fun _ _=>rfl,fun _ _ _ _=>rfl,rfl⟩
def aGr{c:VL γ}{s:AL δ}:(∀L g,(alF f c s).enc L g=.func (.func f) [] (c.enc L g.1)::s.enc L g.2)/\(∀Y L H xs,(alF f c s).mo Y L H xs=aBA f c s Y L H xs)/\(alF f c s).lr=max c.lr s.lr:=⟨fun _ _=>rfl,fun _ _ _ _=>rfl,rfl⟩
def aGs{s:AL δ}:(∀L g,(alZ s).enc L g=.any::s.enc L g)/\(∀Y L H xs,(alZ s).mo Y L H xs=aBB s Y L H xs)/\(alZ s).lr=s.lr:=⟨fun _ _=>rfl,fun _ _ _ _=>rfl,rfl⟩
end aGf
def Ff(h:n<=m)(x:jT)(k:rJ n x):rJ m x:=by
 cases x with
 |cells cs=>exact sY h _ k
 |lN tN sz rows=>exact anr h _ k
 |map es=>exact fun p hp=>⟨AV.ahd h _ (k p hp).1,AV.ahd h _ (k p hp).2⟩
 |loop lk jV st uu=>exact sY h _ k
 |iter s p=>trivial
 |Io s=>trivial
 |xu=>trivial
def atw(hlen:Y.length=Ys.length)(hnd:Y.Nodup)(hid:∀k,k<low->Y[k]? =some k)
 (hl:low<=Ys.length) (G9:w5 Ys.length ys) (H7:∀y∈Ys,rJ Ys.length y)
 (OX:∀(i k:Nat)(y:jT),Y[i]? =some k->Ys[i]? =some y->H[k]? =some (y.qc (atN Y))):
 KB ⟨sZ (atN Y) ys,H,low,[]⟩ ⟨ys,Ys,low,[]⟩:=by
 intro C U a w S
 let U':Nat->aKb:=fun k=>U (atN Y k)
 have hρ:∀k,k<Ys.length->Y[k]? =some (atN Y k):=by
  grind [aaJ]
 have nA:∀(k:Nat)(y:jT),Ys[k]? =some y->k<Ys.length/\H[atN Y k]? =some (y.qc (atN Y)):=by
  grind
 have aI4:∀k,k<low->atN Y k=k:=fun k hk=>aaJ (hid k hk)
 have hinj:∀k k',k<Ys.length->k'<Ys.length->atN Y k=atN Y k'->k=k':=by
  intro k k' hk RB he;have h1:=hρ k hk;have h2:=hρ k' RB;rw[<-he]at h2;have e1:=ae5 Y k _ hnd h1
  grind [ae5]
 have L0:∀b o,F8 U' Ys b o->F8 U H b o:=by
  rintro b o ⟨k,z,hz,hm⟩;exact⟨_,_,(nA k z hz).2,Vz.2 hm⟩
 have un:apn Ys.length (atN Y) (C.env U H w) (C.env U' Ys w):=by
  refine⟨dZ _,fun k hk=>⟨rfl,?_⟩,fun b o u hm hc=>⟨fun h=>hm (h.imp (L0 b o) id),hc⟩,CF _⟩;show lZ Ys[k]? =lZ H[atN Y k]?
  grind [Gd]
 have BM:sQ C U' Ys w [] a.defers:=S.defers.ao0 (fun xs vs ⟨f,hf⟩ _=>(by cases hf)) (fun _ _ _=>rfl) (fun k z b hz hb=>.inl ⟨_,_,(nA k z hz).2,CP.2 hb⟩);refine⟨U',{jV:=ko.DC un _ _ G9 S.jV,defers:=BM,nX:=?_,apart:=?_,tW:=?_,size:=S.size,F9:=S.F9,nM:=S.nM,Ce:=?_,wS:=S.wS,rest:=S.rest,low:=⟨S.low.1,hl⟩,lR:=?_}⟩
 ·intro k z hz;exact n8.DC un (H7 z (eM hz)) (fun _ _=>rfl) (S.nX _ _ (nA k z hz).2)
 ·intro k k' z z' b hz hz' hb qR;refine hinj k k' (nA k z hz).1 (nA k' z' hz').1 (S.apart _ _ _ _ b (nA k z hz).2 (nA k' z' hz').2 (CP.2 hb) (CP.2 qR))
 ·intro k z b o hz hb;exact S.tW _ _ b o (nA k z hz).2 (CP.2 hb)
 ·intro k z b o hz hm hb;exact S.Ce _ _ b o (nA k z hz).2 (Vz.2 hm) hb
 ·intro k hk;have RB:k<low:=by have:=S.low.1;simp only at this;omega
  have hn:=S.lR k hk
  grind [Gd]
section nX
variable {γ δ:Type}
structure OG(γ:Type) where
 enc:DS->γ->jT
 mo:List Nat->DS->List jT->jT->Option γ
 len:γ->Nat
 lr:Nat
 nb:∀L g,rJ lr (enc L g)
 ok:∀Y L H n x g,Cov Y lr n->mo Y L H x=some g->Qp H n x ((enc L g).qc (atN Y))
 ahr:∀Y L H x g,mo Y L H x=some g->len g=(lZ (some x)).getD 0
def ahs{W O:Type}{f:W->Option O}:∀{xs:List W}{ys:List O},r6 f xs=some ys->ys.length=xs.length
 |[],ys,h=>by grind [r6]
 |x::xs,ys,h=>by
  simp only[r6,dM,dN]at h;obtain⟨y,hy,zs,hz,rfl⟩:=h;simp [ahs hz]
def ogA(tN:Bool)(r:Row W):OG (List W) where
 enc _ xs:=.lN tN r.sz (mp r.enc xs)
 mo _ _ _:=daT tN r
 len xs:=xs.length
 lr:=0
 nb L g:=Al g
 ok Y L H n x g _ h:=by
  have:=(oaT tN r).ok H n x g h
  grind [oaT]
 ahr Y L H x g h:=by
  unfold daT at h;split at h
  ·split at h
   ·exact ahs h
   ·cases h
  ·cases h
def ayy(c:AL γ)(Y:List Nat)(L:DS)(H:List jT):jT->Option γ
 |.cells cs=>c.mo Y L H cs
 |_=>none
def KI(c:AL γ):OG γ where
 enc L g:=.cells (c.enc L g)
 mo:=ayy c
 len _:=0
 lr:=c.lr
 nb L g:=c.nb L g
 ok Y L H n x g hv h:=by
  unfold ayy at h;split at h
  ·exact .inr (.inr (.inl ⟨_,_,rfl,rfl,c.ok Y L H n _ _ hv h⟩))
  ·cases h
 ahr Y L H x g h:=by
  unfold ayy at h;split at h
  ·rfl
  ·cases h
def aGt{tN:Bool}{r:Row W}:(∀L g,(ogA tN r).enc L g=.lN tN r.sz (mp r.enc g))/\(∀Y L H x,(ogA tN r).mo Y L H x=daT tN r x)/\(∀g,(ogA tN r).len g=g.length)/\(ogA tN r).lr=0:=⟨fun _ _=>rfl,fun _ _ _ _=>rfl,fun _=>rfl,rfl⟩
def aGu{c:AL γ}:(∀L g,(KI c).enc L g=.cells (c.enc L g))/\(∀Y L H x,(KI c).mo Y L H x=ayy c Y L H x)/\(∀g,(KI c).len g=0)/\(KI c).lr=c.lr:=⟨fun _ _=>rfl,fun _ _ _ _=>rfl,fun _=>rfl,rfl⟩
structure OL(O:Type) where
 enc:DS->O->List jT
 mo:List Nat->DS->List jT->List jT->Option O
 l9:O->DS
 size:Nat
 lr:Nat
 sz:∀L b,(enc L b).length=size
 nb:∀L b,∀y∈enc L b,rJ lr y
 ok:∀Y L H n xs b,Cov Y lr n->mo Y L H xs=some b->xs.length=size/\∀(i:Nat)(y:jT),(enc L b)[i]? =some y->∃x,xs[i]? =some x/\Qp H n x (y.qc (atN Y))
 Jk:∀Y L H xs b,mo Y L H xs=some b->xs.length=size
 agw:∀Y L H xs b,mo Y L H xs=some b->∀k,l9 b k=(lZ xs[k]?).getD 0
def awl:List jT->Option Unit
 |[]=>some ()
 |_=>none
def Du:OL Unit where
 enc _ _:=[]
 mo _ _ _:=awl
 l9 _ _:=0
 size:=0
 lr:=0
 sz _ _:=rfl
 nb _ _:=by simp
 ok Y L H n xs b _ h:=by
  grind [awl]
 Jk Y L H xs b h:=by
  grind [awl]
 agw Y L H xs b h k:=by
  unfold awl at h;split at h
  ·rfl
  ·cases h
def awm(o:OG γ)(s:OL O)(Y:List Nat)(L:DS)(H:List jT):List jT->Option (γ×O)
 |x::xs=>(o.mo Y L H x).bind fun y=>(s.mo Y L H xs).bind fun b=>some (y,b)
 |[]=>none
def ah0(a:Nat)(f:DS):DS
 |0=>a
 |k+1=>f k
def zh(o:OG γ)(s:OL O):OL (γ×O) where
 enc L b:=o.enc L b.1::s.enc L b.2
 mo:=awm o s
 l9 b:=ah0 (o.len b.1) (s.l9 b.2)
 size:=s.size+1
 lr:=max o.lr s.lr
 sz L b:=by rw[eb,s.sz]
 nb L b y hy:=by
  simp only[ez]at hy;rcases hy with rfl|hy
  ·exact Ff (by omega) _ (o.nb L _)
  ·exact Ff (by omega) _ (s.nb L _ y hy)
 ok Y L H n xs b hv h:=by
  unfold awm at h;split at h
  ·rename_i x xs;simp only[dM,dN]at h;obtain⟨y,hy,b,hb,rfl⟩:=h;obtain⟨h1,h2⟩:=s.ok Y L H n _ _ (hv.mono (by omega)) hb;refine⟨by rw[eb,h1],fun i z hz=>?_⟩;cases i with
   |zero=>simp at hz;subst hz;exact⟨x,by simp,o.ok Y L H n _ _ (hv.mono (by omega)) hy⟩
   |succ i=>grind
  ·cases h
 Jk Y L H xs b h:=by
  unfold awm at h;split at h
  ·simp only[dM,dN]at h;obtain⟨y,hy,b,hb,rfl⟩:=h;rw[eb,s.Jk _ _ _ _ _ hb]
  ·cases h
 agw Y L H xs b h k:=by
  unfold awm at h;split at h
  ·simp only[dM,dN]at h;obtain⟨y,hy,b,hb,rfl⟩:=h;cases k with
   |zero=>simp only[ah0,eD];exact o.ahr Y L H _ _ hy
   |succ k=>simp only[ah0,eE];exact s.agw Y L H _ _ hb k
  ·cases h
def aGv:(∀L b,Du.enc L b=[])/\(∀Y L H xs,Du.mo Y L H xs=awl xs)/\(∀b k,Du.l9 b k=0)/\Du.size=0/\Du.lr=0:=⟨fun _ _=>rfl,fun _ _ _ _=>rfl,fun _ _=>rfl,rfl,rfl⟩
def aGw{o:OG γ}{s:OL O}:(∀L b,(zh o s).enc L b=o.enc L b.1::s.enc L b.2)/\(∀Y L H xs,(zh o s).mo Y L H xs=awm o s Y L H xs)/\(∀b,(zh o s).l9 b=ah0 (o.len b.1) (s.l9 b.2))/\(zh o s).size=s.size+1/\(zh o s).lr=max o.lr s.lr:=⟨fun _ _=>rfl,fun _ _ _ _=>rfl,fun _=>rfl,rfl,rfl⟩
end nX
inductive RI where
 |arg (i:Nat) (cs:List Nat)
 |zi (k c:Nat) (cs:List Nat)
def ayz:AV->Option Nat
 |.ptr l _=>some l
 |.lN l _=>some l
 |.map l=>some l
 |_=>none
def down:List Nat->AV->Option AV
 |[],v=>some v
 |i::is,.func _ [] cap=>match cap[i]? with
  |some u=>down is u
  |none=>none
 |i::is,.func _ (x::fs) cap=>match (x::(fs++cap))[i]? with
  |some u=>down is u
  |none=>none
 |_::_,_=>none
def an3(c:Nat):Option jT->Option AV
 |some (.cells xs)=>xs[c]?
 |some (.loop _ xs _ _)=>xs[c]?
 |_=>none
def aGx(args:List AV)(H:List jT)(Y:List Nat):RI->Option Nat
 |.arg i cs=>(args[i]?).bind fun v=>(down cs v).bind ayz
 |.zi k c cs=>(Y[k]?).bind fun l=>(an3 c H[l]?).bind fun v=>(down cs v).bind ayz
def alj(args:List AV)(H:List jT):List RI->List Nat->Option (List Nat)
 |[],Y=>some Y
 |p::ps,Y=>(aGx args H Y p).bind fun l=>alj args H ps (Y++[l])
def ajP{args:List AV}{H:List jT}:∀{ps:List RI}{Y Y':List Nat},alj args H ps Y=some Y'->∃ls,Y'=Y++ls
 |[],Y,Y',h=>by simp_all [alj]
 |p::ps,Y,Y',h=>by
  simp only[alj,dM]at h;obtain⟨l,_,h⟩:=h;obtain⟨ls,hl⟩:=ajP h
  grind
def aff(xs:List jT)(k:Nat):Nat:=(lZ xs[k]?).getD 0
def ayA(hT:aaC T){Pk:List AV}{aJJ:vf}(hG:FnT P T args Ys (fun o H'=>o=aJJ/\H'=Ys'))(hnd:Y.Nodup)(hlen:Y.length=Ys.length)(aqb:Y.length<=Ys'.length)
 (hz:∀U:Nat->aKb,T (U (oP Y J.heap.length 0))=T (U l0))
 (OX:∀(i k:Nat),Y[i]? =some k->∃x y,J.heap[k]? =some x/\Ys[i]? =some y/\Qp J.heap J.heap.length x (y.qc (oP Y J.heap.length))) (Sf:EG J.heap J.heap.length Pk (sZ (oP Y J.heap.length) args)):
 Sh P T l0 Pk J (fun o H'=>o=aJJ.qc (oP Y J.heap.length)/\H'=xc Y J.heap Ys'):=by
 intro C U a w hP S vs hr
 let H1:=si J.heap Y (Ys.map (jT.qc (oP Y J.heap.length)))
 have hl1:H1.length=J.heap.length:=xK _ _ _;have S0:mM C U ⟨J.jV++Pk,J.heap,J.low,J.df⟩ {tmps:=a.tmps++vs,defers:=a.defers} w:={S with jV:=by simpa using S.jV.append hr,defers:=S.defers}
 have hat:∀(i k:Nat),Y[i]? =some k->∃x y,J.heap[k]? =some x/\Ys[i]? =some y/\Qp J.heap J.heap.length x (y.qc (oP Y J.heap.length))/\H1[k]? =some (y.qc (oP Y J.heap.length)):=by
  grind [VC]
 have hw:ajd ⟨J.jV++Pk,J.heap,J.low,J.df⟩ ⟨J.jV++sZ (oP Y J.heap.length) args,H1,J.low,J.df⟩:=by
  refine⟨⟨⟨rfl,by show J.low<=H1.length;rw[hl1];exact S.low.2⟩,rfl,by show ash H1.length J.df;rw[hl1];exact NR.nb S.defers.2.2⟩,?_,?_⟩
  ·show EG J.heap H1.length _ _;rw[hl1];exact EG.append (EG.same (ko.nb _ _ S.jV)) Sf
  ·show CoH J.heap H1.length J.heap H1;rw[hl1];refine XE fun k y hy=>?_
   by_cases hk:k∈Y
   ·grind [ew]
   ·have hy2:J.heap[k]? =some y:=by grind [Hi]
    exact⟨y,hy2,.inr (.inl ⟨rfl,VA (S.nX k y hy2)⟩)⟩
 have S1:=hw.sim S0;have hsl:=S1.jV;simp only[eg]at hsl;have hsz:a.tmps.toList.length=J.jV.length:=S.jV.length;have h1:=hsl.take J.jV.length;have h2:=hsl.drop J.jV.length;rw[dW rfl,dW hsz]at h1;rw[dX rfl,dX hsz]at h2;have S2:mM C U {J with heap:=H1} a w:={S1 with jV:=h1,defers:=S1.defers}
 have xE:Sh P T l0 (sZ (oP Y H1.length) args) {J with heap:=H1} (fun o H'=>o=aJJ.qc (oP Y H1.length)/\H'=xc Y J.heap Ys'):=by
  refine ae6 (J:={J with heap:=H1}) hT hG Y hlen hnd (by simp_all) (q8.refl _) ?_ ?_
  all_goals grind [xc,Up]
 rw[hl1]at xE;exact xE C U a w hP S2 vs h2
section Kr

def ajQ(base:List Nat)(pos:List RI)(os:OL O)(aJU:AL W)(M6:OL O')(rs:AL W')(F:O->W->Option (O'×W')):Ent:=fun args H=>
 (alj args H pos base).bind fun Y=>bif Jm Y&&(decide (os.lr<=Y.length)&&(decide (aJU.lr<=Y.length)&&decide (Y.length<=M6.size)))then
   (r6 (ahq H) Y).bind fun xs=>(os.mo Y (aff xs) H xs).bind fun b=>(aJU.mo Y (aff xs) H args).bind fun a=>(F b a).bind fun r=>
     some ((uv (rs.enc (M6.l9 r.1) r.2)).qc (oP Y H.length),xc Y H (M6.enc (M6.l9 r.1) r.1))else none
def Kr(pos:List RI)(os:OL O)(aJU:AL W)(M6:OL O')(rs:AL W')(F:O->W->Option (O'×W')):Ent:=ajQ [] pos os aJU M6 rs F
def ayB(pos:List RI)(os:OL O)(aJU:AL W)(M6:OL O')(rs:AL W')(F:O->W->Option (O'×W'))(l:Nat):Ent:=fun args H=>
 match H[l]? with
 |some (.loop k _ _ _)=>ny (args.length=k.ps.size) (ajQ [l] pos os aJU M6 rs F args H)
 |_=>none
def aqt(hT:aaC T){pos:List RI}{os:OL O}{aJU:AL W}{M6:OL O'}{rs:AL W'}{F:O->W->Option (O'×W')}
 (hz:∀(ls:List Nat)(n:Nat)(U:Nat->aKb),T (U (oP (base++ls) n 0))=T (U l0)) (he:ajQ base pos os aJU M6 rs F args J.heap=some (r,H')):
 ∃b a q,F b a=some q/\(FnT P T (aJU.enc (os.l9 b) a) (os.enc (os.l9 b) b) (fun o H'=>o=.ret (uv (rs.enc (M6.l9 q.1) q.2))/\H'=M6.enc (M6.l9 q.1) q.1)->Sh P T l0 args J (fun o FJ=>o=.ret r/\FJ=H')):=by
 unfold ajQ at he;simp only[dM]at he;obtain⟨Y,hρ,he⟩:=he;cases hc:(Jm Y&&(decide (os.lr<=Y.length)&&(decide (aJU.lr<=Y.length)&&decide (Y.length<=M6.size))))with
 |false=>simp [hc]at he
 |true=>
  simp only[hc,jy,dM,dN,dO]at he;obtain⟨xs,hxs,b,hb,a,ha,q,hq,rfl,rfl⟩:=he;refine⟨b,a,q,hq,fun hfn=>?_⟩;simp only[dQ,jD]at hc;obtain⟨hnd,n1,n2,n3⟩:=hc;obtain⟨h1,h2⟩:=VJ hxs
  have aqu:∀m,m<=Y.length->Cov Y m J.heap.length:=by
   intro m hm k hk;have RB:k<Y.length:=by omega
   obtain⟨x,hx,Dt⟩:=h2 k _ (dR RB)
   grind
  have hL:os.l9 b=aff xs:=funext fun k=>os.agw Y _ _ _ _ hb k
  obtain⟨h3,h4⟩:=os.ok Y _ J.heap J.heap.length _ _ (aqu _ n1) hb;have aax:∀l,l<Y.length->atN Y l=oP Y J.heap.length l:=fun l hl=>by unfold oP atN;rw[if_pos hl]
  rw[<-hL]at ha h4;obtain⟨ls,hls⟩:=ajP hρ;refine ayA hT hfn (Qh hnd) (by rw[h1,h3,os.sz]) (by rw[M6.sz];exact n3) (fun U=>by rw[hls];exact hz ls _ U) ?_ ?_
  ·intro i k hi;obtain⟨x,hx,Dt⟩:=h2 i k hi;have mR:i<(os.enc (os.l9 b) b).length:=by rw[os.sz,<-h3,<-h1];grind
   have hy:=dR mR;obtain⟨x2,RC,hcc⟩:=h4 i _ hy;rw[hx]at RC;cases RC;refine⟨x,_,Dt,hy,?_⟩;rw[<-afd (n:=os.lr) (fun l hl=>aax l (by omega)) _ (os.nb _ _ _ (eM hy))];exact hcc
  ·rw[<-DR (n:=aJU.lr) (fun l hl=>aax l (by omega)) _ (aJU.nb _ _)];exact aJU.ok Y _ J.heap _ _ _ (aqu _ n2) ha
def mS{pos:List RI}{os:OL O}{aJU:AL W}{M6:OL O'}{rs:AL W'}{F:O->W->Option (O'×W')}
 (h:∀b a r,F b a=some r->FnG P f (aJU.enc (os.l9 b) a) (os.enc (os.l9 b) b) (fun o H'=>o=.ret (uv (rs.enc (M6.l9 r.1) r.2))/\H'=M6.enc (M6.l9 r.1) r.1)):VG P f (Kr pos os aJU M6 rs F):=by
 intro args J r H' he;obtain⟨b,a,q,hq,xE⟩:=aqt (P:=P) (T:=fun _ w vs R=>Calls P f vs w R) (l0:=0) ad9 (fun _ _ _=>rfl) he;exact⟨(h b a q hq).1,xE (h b a q hq).2⟩
def au0{pos:List RI}{os:OL O}{aJU:AL W}{M6:OL O'}{rs:AL W'}{F:O->W->Option (O'×W')}
 (h:∀b a r,F b a=some r->FnT P (aau P) (aJU.enc (os.l9 b) a) (os.enc (os.l9 b) b) (fun o H'=>o=.ret (uv (rs.enc (M6.l9 r.1) r.2))/\H'=M6.enc (M6.l9 r.1) r.1)) (he:ayB pos os aJU M6 rs F l args J.heap=some (r,H')):MY P l args J (fun o FJ=>o=.ret r/\FJ=H'):=by
 unfold ayB at he;split at he
 ·rename_i k jV st uu hk;rw[mg]at he;obtain⟨hlen,he⟩:=he;obtain⟨b,a,q,hq,xE⟩:=aqt (P:=P) (T:=aau P) (l0:=l) apB (fun ls n U=>by simp [oP]) he;exact⟨⟨k,jV,st,uu,hk,hlen⟩,xE (h b a q hq)⟩
 ·cases he
def aqv:List (Nat×(Nat->Ent))->Nat->Ent
 |[],_,_,_=>none
 |(l',e)::t,l,args,H=>bif l==l' then e l args H else aqv t l args H
def aht:∀(l:Nat)(args:List AV)(J:jJ)(r:AV)(H':List jT),aqv [] l args J.heap=some (r,H')->MY P l args J (fun o FJ=>o=.ret r/\FJ=H'):=by
 intro l args J r H' h;cases h
def afg{l':Nat}{e:Nat->Ent}{t:List (Nat×(Nat->Ent))}(h1:∀(l:Nat)(args:List AV)(J:jJ)(r:AV)(H':List jT),e l args J.heap=some (r,H')->MY P l args J (fun o FJ=>o=.ret r/\FJ=H'))
 (h2:∀(l:Nat)(args:List AV)(J:jJ)(r:AV)(H':List jT),aqv t l args J.heap=some (r,H')->MY P l args J (fun o FJ=>o=.ret r/\FJ=H')):
 ∀(l:Nat)(args:List AV)(J:jJ)(r:AV)(H':List jT),aqv ((l',e)::t) l args J.heap=some (r,H')->MY P l args J (fun o FJ=>o=.ret r/\FJ=H'):=by
 grind [aqv]
end Kr
section Xy
variable {γ:Type}
def atx(xs:List AV)(pos:List RI)(base:List Nat)(low:Nat)(os:OL O)(s:AL W)(J:jJ):Option (O×W):=
 (alj xs J.heap pos base).bind fun Y=>bif Jm Y&&((J.low==low)&&(J.df.isEmpty&&(decide (low<=os.size)&&(decide (os.lr<=os.size)&&decide (s.lr<=os.size)))))then
   (r6 (ahq J.heap) Y).bind fun ys=>(os.mo Y (aff ys) J.heap ys).bind fun b=>(s.mo Y (aff ys) J.heap xs).bind fun a=>some (b,a)else none
def xT(P:aKc)(rs:List ResultVar)(pos:List RI)(base:List Nat)(low:Nat)(os:OL O)(s:AL W)(J:jJ):Option (O×W):=
 (Bg P J rs).bind fun xs=>atx xs pos base low os s J
def afh{xs:List AV}{pos:List RI}{os:OL O}{s:AL W}{r:O×W}(aao:base=eN low)(h:atx xs pos base low os s J=some r):
 J.df=[]/\KB ⟨xs,J.heap,J.low,[]⟩ ⟨s.enc (os.l9 r.1) r.2,os.enc (os.l9 r.1) r.1,J.low,[]⟩:=by
 unfold atx at h;simp only[dM]at h;obtain⟨Y,hρ,h⟩:=h;cases hc:(Jm Y&&((J.low==low)&&(J.df.isEmpty&&(decide (low<=os.size)&&(decide (os.lr<=os.size)&&decide (s.lr<=os.size))))))with
 |false=>simp [hc]at h
 |true=>
  simp only[hc,jy,dM,dN]at h;obtain⟨ys,hys,b,hb,a,ha,rfl⟩:=h;simp only[dQ,jD,beq_iff_eq]at hc;obtain⟨hnd,h1,ZI,n1,n2,n3⟩:=hc;refine⟨by simpa using ZI,?_⟩;obtain⟨ls,hls⟩:=ajP hρ;obtain⟨g1,g2⟩:=VJ hys;have hL:os.l9 b=aff ys:=funext fun k=>os.agw Y _ _ _ _ hb k
  rw[<-hL]at hb ha
  have Vu:Y.length=os.size:=by
   have:ys.length=os.size:=os.Jk _ _ _ _ _ hb;rw[g1,this]
  intro C U a' w S
  have aqu:∀m,m<=Y.length->Cov Y m J.heap.length:=by
   intro m hm k hk;have RB:k<Y.length:=by omega
   obtain⟨x,hx,Dt⟩:=g2 k _ (dR RB)
   grind
  let Ys:=os.enc (os.l9 b) b
  have hYl:Ys.length=os.size:=os.sz _ _
  let H1:=si J.heap Y (Ys.map (jT.qc (atN Y)))
  have hl1:H1.length=J.heap.length:=xK _ _ _;obtain⟨_,h4⟩:=os.ok Y _ J.heap J.heap.length _ _ (aqu _ (by omega)) hb
  have hat:∀(i k:Nat)(y:jT),Y[i]? =some k->Ys[i]? =some y->∃x,J.heap[k]? =some x/\Qp J.heap J.heap.length x (y.qc (atN Y))/\H1[k]? =some (y.qc (atN Y)):=by
   grind [VC,Qh]
  have hw:ajd ⟨xs,J.heap,J.low,[]⟩ ⟨sZ (atN Y) (s.enc (os.l9 b) a),H1,J.low,[]⟩:=by
   refine⟨⟨⟨rfl,by show J.low<=H1.length;rw[hl1];exact S.low.2⟩,rfl,aay⟩,?_,?_⟩
   ·show EG J.heap H1.length _ _;rw[hl1];exact s.ok Y _ J.heap _ _ _ (aqu _ (by omega)) ha
   ·show CoH J.heap H1.length J.heap H1;rw[hl1];refine XE fun k y hy=>?_
    by_cases hk:k∈Y
    ·obtain⟨i,hi⟩:=ew hk;have mR:i<Ys.length:=by grind
     obtain⟨x,hx,hc,hy'⟩:=hat i k _ hi (dR mR)
     grind
    ·have hy2:J.heap[k]? =some y:=by grind [Hi]
     exact⟨y,hy2,.inr (.inl ⟨rfl,VA (S.nX k y hy2)⟩)⟩
  obtain⟨U',S1⟩:=hw.imp C U _ w S;refine atw (Y:=Y) (Ys:=Ys) (by rw[Vu,hYl]) (Qh hnd) ?_ (by rw[hYl];omega) (sY (by omega) _ (s.nb _ _)) (fun y hy=>Ff (by omega) _ (os.nb _ _ y hy)) ?_ C U' a' w S1
  all_goals grind
def Sj{pos:List RI}{os:OL O}{s:AL W}{r:O×W}(aao:base=eN low)(h:xT P rs pos base low os s J=some r):
 J.df=[]/\∃xs,Bg P J rs=some xs/\aef ⟨xs,J.heap,J.low,[]⟩ ⟨s.enc (os.l9 r.1) r.2,os.enc (os.l9 r.1) r.1,J.low,[]⟩:=by
 unfold xT at h;simp only[dM]at h;obtain⟨xs,hx,h⟩:=h;exact⟨(afh aao h).1,xs,hx,(afh aao h).2.e⟩
end Xy
def aty {b c:Nat}:decide (max a b<=c)=(decide (a<=c)&&decide (b<=c)):=by
 grind
def ayC{xs:List jT}:aff xs k=(lZ xs[k]?).getD 0:=rfl
def ayD:(∀i s r,lZ (some (.lN i s r))=some r.length)/\(∀c,lZ (some (.cells c))=none)/\(∀e,lZ (some (.map e))=none)/\lZ (some .xu)=none/\lZ none=none:=⟨fun _ _ _=>rfl,fun _=>rfl,fun _=>rfl,rfl,rfl⟩
def aEg{f:DS}:ah0 a f 0=a/\∀k,ah0 a f (k+1)=f k:=⟨rfl,fun _=>rfl⟩
def aEh{f:DS}:ah0 a f 1=f 0:=rfl
def aEi{f:DS}:ah0 a f 2=f 1:=rfl
def aEj{f:DS}:ah0 a f 3=f 2:=rfl
def aEk{f:DS}:ah0 a f 4=f 3:=rfl
def aEl{f:DS}:ah0 a f 5=f 4:=rfl
def aEm{f:DS}:ah0 a f 6=f 5:=rfl
def aGy:vlN.lr=0:=rfl
def aGz{t:Ty W}{s:VL O}:(vlT t s).lr=s.lr:=rfl
def aGA{s:VL O}:(vlP k s).lr=max (k+1) s.lr:=rfl
def aGB{s:VL O}:(vlM k s).lr=max (k+1) s.lr:=rfl
def aGC{c:VL W}{s:VL O}:(vlF f c s).lr=max c.lr s.lr:=rfl
attribute [go_sem] aGy aGz aGA aGB aGC aGg aGh aGi aGj aGk aGl aGm aGn aGo aGp aGq aGr aGs afe aGt aGu aGv aGw atv aBr aBs aBt aBu aBv aBw aBx aBy aBz aBA aBB ayy awl awm Kr xT alj aGx ayz down an3 ayC ayD Option.getD_some Option.getD_none aEg aEh aEi aEj aEk aEl aEm aty dN
def stJ(lk:yN)(j:Int):aKe:=stP (qy lk.js j)
def ayE:stJ lk 0=.ready:=rfl
section ogL
variable {γ:Type}
def ayF(lk:yN)(c:AL γ)(Y:List Nat)(L:DS)(H:List jT):jT->Option (γ×Int)
 |.loop lk' jV st j=>ny (lk'=lk/\st=stJ lk j) ((c.mo Y L H jV).bind fun g=>some (g,j))
 |_=>none
def ogL(lk:yN)(c:AL γ):OG (γ×Int) where
 enc L g:=.loop lk (c.enc L g.1) (stJ lk g.2) g.2
 mo:=ayF lk c
 len _:=0
 lr:=c.lr
 nb L g:=c.nb L g.1
 ok Y L H n x g hv h:=by
  unfold ayF at h;split at h
  ·simp only[mg,dM,dN]at h;obtain⟨⟨rfl,rfl⟩,y,hy,rfl⟩:=h;exact .inr (.inr (.inr (.inr ⟨_,_,_,_,_,rfl,rfl,c.ok Y L H n _ _ hv hy⟩)))
  ·cases h
 ahr Y L H x g h:=by
  unfold ayF at h;split at h
  ·rfl
  ·cases h
def aqw(lk:yN)(c:AL γ)(Y:List Nat)(L:DS)(H:List jT):jT->Option γ
 |.loop lk' jV st j=>bif j==0 then ny (lk'=lk/\st=stJ lk j) (c.mo Y L H jV)else none
 |_=>none
def awn (lk:yN) (c:AL γ):OG γ where
 enc L g:=.loop lk (c.enc L g) .ready 0
 mo:=aqw lk c
 len _:=0
 lr:=c.lr
 nb L g:=c.nb L g
 ok Y L H n x g hv h:=by
  unfold aqw at h;split at h
  ·rename_i lk' jV st j;cases hj:j==0 with
   |false=>rw[hj]at h;cases h
   |true=>
    rw[hj,jy]at h;have hj':j=0:=by simpa using hj
    subst hj';simp only[mg]at h;obtain⟨⟨rfl,rfl⟩,hy⟩:=h;exact .inr (.inr (.inr (.inr ⟨_,_,_,_,_,rfl,rfl,c.ok Y L H n _ _ hv hy⟩)))
  ·cases h
 ahr Y L H x g h:=by
  unfold aqw at h;split at h
  ·rfl
  ·cases h
def aEn{c:AL γ}{st:aKe}{j:Int}:ayF lk c Y L H (.loop lk' s st j)=ny (lk'=lk/\st=stJ lk j) ((c.mo Y L H s).bind fun g=>some (g,j)):=rfl
def aBC{c:AL γ}{st:aKe}{j:Int}:aqw lk c Y L H (.loop lk' s st j)=bif j==0 then ny (lk'=lk/\st=stJ lk j) (c.mo Y L H s)else none:=rfl
def aGD{c:AL γ}:(∀L g,(ogL lk c).enc L g=.loop lk (c.enc L g.1) (stJ lk g.2) g.2)/\(∀Y L H x,(ogL lk c).mo Y L H x=ayF lk c Y L H x)/\(∀g,(ogL lk c).len g=0)/\(ogL lk c).lr=c.lr:=⟨fun _ _=>rfl,fun _ _ _ _=>rfl,fun _=>rfl,rfl⟩
def aEo{c:AL γ}:(∀L g,(awn lk c).enc L g=.loop lk (c.enc L g) .ready 0)/\(∀Y L H x,(awn lk c).mo Y L H x=aqw lk c Y L H x)/\(∀g,(awn lk c).len g=0)/\(awn lk c).lr=c.lr:=⟨fun _ _=>rfl,fun _ _ _ _=>rfl,fun _=>rfl,rfl⟩
end ogL
def Ur:List (Int×aJ9)->nU->Int
 |(k,.ret)::_,.ret=>k
 |(k,.exit n)::t,.exit m=>bif n==m then k else Ur t (.exit m)
 |_::t,e=>Ur t e
 |[],_=>0
section afi

def ayG(js:List (Int×aJ9))(pos:List RI)(base:List Nat)(low:Nat)(os:OL O)(e:nU)(J:jJ):Option jT->Option (O×(Bool×Unit))
 |some (.loop lk sl .busy 0)=>ny (ajt e=some (qy lk.js (Ur js e))) (atx [.bool (qy lk.js (Ur js e)).isNone] pos base low os (lw nD kr) {J with heap:=J.heap.set 0 (.loop lk sl (stJ lk (Ur js e)) (Ur js e))})
 |_=>none
def afi(js:List (Int×aJ9))(pos:List RI)(base:List Nat)(low:Nat)(os:OL O)(e:nU)(J:jJ):Option (O×(Bool×Unit)):=ayG js pos base low os e J J.heap[0]?
def aBD{pos:List RI}{os:OL O}{e:nU}{sl:List AV}:ayG js pos base low os e J (some (.loop lk sl .busy 0))=
 ny (ajt e=some (qy lk.js (Ur js e))) (atx [.bool (qy lk.js (Ur js e)).isNone] pos base low os (lw nD kr) {J with heap:=J.heap.set 0 (.loop lk sl (stJ lk (Ur js e)) (Ur js e))}):=rfl
def alk(h:KB ⟨[x],J.heap,J.low,[]⟩ ⟨[r],H',J.low,[]⟩):aea J x r H':=by
 intro C U a w S v hv;obtain⟨U',S'⟩:=h C U {tmps:= #[v],defers:=[]} w {S with jV:=⟨v,[],rfl,hv,rfl⟩,defers:=sQ.nil};obtain⟨v',_,e,hr,_⟩:=S'.jV;simp only[eu]at e;obtain⟨rfl,_⟩:=e;exact⟨U',{S' with jV:=rfl,defers:=sQ.nil},hr⟩
def aqx{pos:List RI}{os:OL O}{e:nU}{r:O×(Bool×Unit)}(aao:base=eN low)(h:afi js pos base low os e J=some r):
 auO (fun o H'=>o=.ret (uv ((lw nD kr).enc (os.l9 r.1) r.2))/\H'=os.enc (os.l9 r.1) r.1) e J:=by
 unfold afi ayG at h;split at h
 ·rename_i lk sl hk;simp only[mg]at h;obtain⟨hj,h⟩:=h;have:=afh aao h;exact⟨_,lk,sl,hj,hk,_,_,alk (J:={J with heap:=J.heap.set 0 (.loop lk sl (stJ lk (Ur js e)) (Ur js e))}) this.2,rfl,rfl⟩
 ·cases h
end afi
section aGE
variable {M:kG R} {k:List Kt}
def ayH{j:Int}:ajv M k J H' (some (.loop lk s (stJ lk j) j))=aju M k {J with heap:=H'.set J.heap.length .xu} (qy lk.js j):=by
 rw[apG];exact ajL
end aGE
def ayI{st:aKe}{j:Int}:(jT.loop lk s st j).qc τ=.loop lk (sZ τ s) st j:=rfl
def ayJ{st:aKe}{j:Int}:lZ (some (.loop lk s st j))=none:=rfl
def ayK{c:Nat}:(∀xs,an3 c (some (.cells xs))=xs[c]?)/\(∀lk xs st j,an3 c (some (.loop lk xs st j))=xs[c]?):=⟨fun _=>rfl,fun _ _ _ _=>rfl⟩
def aBE:ajt .normal=some none/\ajt .ret=some (some .ret)/\∀id,ajt (.exit id)=some (some (.exit id)):=⟨rfl,rfl,fun _=>rfl⟩
def aEp:(∀k t,Ur ((k,.ret)::t) .ret=k)/\(∀k n t,Ur ((k,.exit n)::t) .ret=Ur t .ret)/\(∀k t m,Ur ((k,.ret)::t) (.exit m)=Ur t (.exit m))/\(∀k n t m,Ur ((k,.exit n)::t) (.exit m)=bif n==m then k else Ur t (.exit m))/\
 (∀js,Ur js .normal=0)/\(∀e,Ur [] e=0):=
 ⟨fun _ _=>rfl,fun _ _ _=>rfl,fun _ _ _=>rfl,fun _ _ _ _=>rfl,fun js=>by induction js with|nil=>rfl|cons x t ih=>obtain⟨k,c⟩:=x;cases c<;>exact ih,fun _=>rfl⟩
def aDe(pos:List RI)(os:OL O)(aJU:AL W)(M6:OL O')(rs:AL W')(F:O->W->Option (O'×W'))(l:Nat)(args:List AV)(H:List jT):Option jT->Option (AV×List jT)
 |some (.loop k _ _ _)=>ny (args.length=k.ps.size) (ajQ [l] pos os aJU M6 rs F args H)
 |_=>none
def aEq{pos:List RI}{os:OL O}{aJU:AL W}{M6:OL O'}{rs:AL W'}:
 ayB pos os aJU M6 rs F l args H=aDe pos os aJU M6 rs F l args H H[l]? :=rfl
def aBF{pos:List RI}{os:OL O}{aJU:AL W}{M6:OL O'}{rs:AL W'}{k:yN}{st:aKe}{j:Int}:
 aDe pos os aJU M6 rs F l args H (some (.loop k s st j))=ny (args.length=k.ps.size) (ajQ [l] pos os aJU M6 rs F args H):=rfl
def ajR:aJ9->aJ9
 |.rangeFunc _ _ a _=>a
 |_=>.skip
def atz:aJ9->aJ9
 |.rangeFunc _ _ _ b=>b
 |_=>.skip
attribute [go_sem] ajR atz
def aEr:List (List Nat×List (Int×aJ9))->List Nat->List (Int×aJ9)
 |[],_=>[]
 |(p',js)::t,p=>if p=p' then js else aEr t p
def aBG:(LoopState.ready=stJ lk 0)=True:=by simp [ayE]
def oLf(zs:List NZ)(H:List jT)(n:Nat):jT->Option jT
 |.loop lk s st j=>ny (st=stJ lk j) ((ahU zs H n s).bind fun ds=>some (.loop lk ds (stJ lk j) j))
 |_=>none
def oL(zs:List NZ):ZO:=⟨oLf zs,fun H n x y h=>by
 unfold oLf at h;split at h
 ·simp only[mg,dM,dN]at h;obtain⟨rfl,ds,hd,rfl⟩:=h;exact .inr (.inr (.inr (.inr ⟨_,_,_,_,_,rfl,rfl,aiL hd⟩)))
 ·cases h⟩
def aIn{st:aKe}{j:Int}:(oL zs).f H n (.loop lk s st j)=ny (st=stJ lk j) ((ahU zs H n s).bind fun ds=>some (.loop lk ds (stJ lk j) j)):=rfl
attribute [go_sem] aBG aIn aGD aEo aEn aBC afi aBD atx ajQ ayH ayI ayJ ayK aBE aEp aEq aBF aqv
def He(p:Str×Bool):AV×AV:=(.str (sb p.1),.bool p.2)
def oF{W:Type}(s:Str):List (Str×W)->Option W
 |[]=>none
 |(k,v)::es=>bif s==k then some v else oF s es
def Bi{W:Type}(s:Str)(v:W):List (Str×W)->List (Str×W)
 |[]=>[(s,v)]
 |(k,u)::es=>bif s==k then(k,v)::es else(k,u)::Bi s v es
theorem an4(a b:Str):(sb a==sb b)=(a==b):=by
 grind [MapKept.bytes_beq,VK]
def ajS:∀xs:List (Str×Bool),OU (xs.map He)=true
 |[]=>rfl
 |_::xs=>ajS xs
theorem amM(xs:List (Str×Bool)):OU (mp He xs)=true:=by rw[qD];exact ajS xs
theorem ahu(s:Str):∀xs:List (Str×Bool),ze (sb s) (xs.map He)=(oF s xs).map AV.bool
 |[]=>rfl
 |(k,v)::xs=>by
  show(bif sb s==sb k then some (AV.bool v)else ze (sb s) (xs.map He))=_;rw[an4,ahu s xs]
  grind [oF]
theorem atA(s:Str)(xs:List (Str×Bool)):ze (sb s) (mp He xs)=(oF s xs).map AV.bool:=by rw[qD];exact ahu s xs
theorem ajT(s:Str)(v:Bool):∀xs:List (Str×Bool),MW (sb s) (.bool v) (xs.map He)=(Bi s v xs).map He
 |[]=>rfl
 |(k,u)::xs=>by
  show(bif sb s==sb k then(AV.str (sb k),AV.bool v)::xs.map He else(AV.str (sb k),AV.bool u)::MW (sb s) (.bool v) (xs.map He))=_;rw[an4,ajT s v xs];simp only[Bi];cases s==k<;>rfl
theorem awo(s:Str)(v:Bool)(xs:List (Str×Bool)):MW (sb s) (.bool v) (mp He xs)=mp He (Bi s v xs):=by grind [qD,ajT]
def aqy(o:Option Bool)(z:Bool):(o.map AV.bool).getD (.bool z)=.bool (o.getD z):=by cases o<;>rfl
def atB:jT.map []=.map (mp He []):=by rw[qD];rfl
def atC{z:AV}{s:Str}:ach z l (sb s) (some (.map (mp He xs)))=some {val:=((oF s xs).map AV.bool).getD z,rd:=[l]}:=by
 grind [ach,amM,atA]
def aqz{s:Str}{v:Bool}:CH l (sb s) (.bool v) (some (.map (mp He xs)))=some {val:=.any,rd:=[l],up:=[(l,.map (mp He (Bi s v xs)))]}:=by
 grind [CH,amM,awo]
def afj(n:Nat)(xs:List (Str×Bool)):rJ n (.map (mp He xs))=True:=by
 refine eq_true fun p hp=>?_
 rw[qD,List.mem_map]at hp;obtain⟨q,_,rfl⟩:=hp;exact⟨trivial,trivial⟩
def awq(Y:Nat->Nat)(xs:List (Str×Bool)):(mp He xs).map (fun p=>(AV.qc Y p.1,AV.qc Y p.2))=mp He xs:=by
 rw[qD,eP];exact ek fun _ _=>rfl
def awr(n:Nat)(xs:List (Str×Bool)):(∀p:AV×AV,p∈mp He xs->AV.nb n p.1/\AV.nb n p.2)=True:=afj n xs
attribute [go_sem high] awq awr
def ddB:AV×AV->Option (Str×Bool)
 |(.str s,.bool b)=>some (s.toList,b)
 |_=>none
theorem aEs{p:AV×AV}{q:Str×Bool}(h:ddB p=some q):p=He q:=by
 unfold ddB at h;split at h
 ·rename_i s b;simp only[dN]at h;subst h;simp only[He,dO,AV.str.injEq,and_true];obtain⟨⟨l⟩⟩:=s;rw[ByteArray.toList_eq];rfl
 ·cases h
theorem amN:∀{es:List (AV×AV)}{xs:List (Str×Bool)},r6 ddB es=some xs->es=xs.map He
 |[],xs,h=>by grind [r6]
 |p::es,xs,h=>by
  simp only[r6,dM,dN]at h;obtain⟨q,hq,ys,hys,rfl⟩:=h;rw[aEs hq,amN hys];rfl
theorem ayL{es:List (AV×AV)}(h:r6 ddB es=some xs):es=mp He xs:=by rw[qD];exact amN h
theorem au1(τ:Nat->Nat)(xs:List (Str×Bool)):(jT.map (mp He xs)).qc τ=.map (mp He xs):=by
 rw[qD];show jT.map ((xs.map He).map _)=_;congr 1;rw[eP];exact ek fun p _=>by obtain⟨s,b⟩:=p;rfl
def daM:jT->Option (List (Str×Bool))
 |.map es=>r6 ddB es
 |_=>none
def aEt:daM (.map (mp He xs))=some xs:=by
 show r6 ddB (mp He xs)=some xs;exact Jb (fun x=>by obtain⟨s,b⟩:=x;show some ((sb s).toList,b)=_;rw[VK]) xs
theorem ayM{x:jT}(h:daM x=some xs):x=.map (mp He xs):=by
 unfold daM at h
 grind [ayL]
def ogM:OG (List (Str×Bool)) where
 enc _ xs:=.map (mp He xs)
 mo _ _ _:=daM
 len _:=0
 lr:=0
 nb L g:=of_eq_true (afj 0 g)
 ok Y L H n x g _ h:=by
  rw[ayM h];rw[au1];exact .inr (.inl ⟨rfl,of_eq_true (afj n g)⟩)
 ahr Y L H x g h:=by
  rw[ayM h];rfl
def aGF:(∀L g,ogM.enc L g=.map (mp He g))/\(∀Y L H x,ogM.mo Y L H x=daM x)/\(∀g,ogM.len g=0)/\ogM.lr=0:=⟨fun _ _=>rfl,fun _ _ _ _=>rfl,fun _=>rfl,rfl⟩
attribute [go_sem] atC aqz aqy atB aEt aGF au1
attribute [go_sem high] afj
def Tup(W:Type):Nat->Type
 |0=>Unit
 |n+1=>W×Tup W n
section Ip

def ajU(c:W->List AV):(n:Nat)->Tup W n->List AV
 |0,_=>[]
 |n+1,x=>c x.1++ajU c n x.2
def agx(d:List AV->Option W)(sz:Nat):(n:Nat)->List AV->Option (Tup W n)
 |0,cs=>if cs.isEmpty=true then some ()else none
 |n+1,cs=>(d (cs.take sz)).bind fun x=>(agx d sz n (cs.drop sz)).bind fun t=>some (x,t)
def aDf{c:W->List AV}(h:∀n x,w5 n (c x))(k:Nat):∀(n:Nat)(v:Tup W n),w5 k (ajU c n v)
 |0,_=>trivial
 |n+1,v=>DQ (h k v.1) (aDf h k n v.2)
def aDg{c:VF W}{H:List jT}{m sz:Nat}:∀{n:Nat}{cs:List AV}{v:Tup W n},agx (c.mo H) sz n cs=some v->n7 H m cs (ajU c.enc n v)
 |0,cs,v,h=>by
  simp only[agx]at h;split at h
  ·rename_i he;rw[List.isEmpty_iff]at he;subst he;exact n7.nil
  ·cases h
 |n+1,cs,v,h=>by
  simp only[agx,dM]at h;obtain⟨x,hx,t,ht,he⟩:=h;obtain rfl:(x,t)=v:=Option.some.inj he;have:=n7.append (c.ok H m _ _ hx) (aDg (c:=c) (m:=m) ht);rw[eL]at this;exact this
def cA(c:VF W)(sz n:Nat):VF (Tup W n) where
 enc v:=ajU c.enc n v
 mo H cs:=agx (c.mo H) sz n cs
 ok H m cs v h:=aDg h
 nb k v:=aDf c.nb k n v
def aIo{c:VF W}{sz:Nat}:(∀v,(cA c sz n).enc v=ajU c.enc n v)/\∀H cs,(cA c sz n).mo H cs=agx (c.mo H) sz n cs:=⟨fun _=>rfl,fun _ _=>rfl⟩
end Ip
attribute [go_sem] aIo
def aaK(xs:List Str):List AV:=[.kW false 1 (mp nY xs)]
def atD:List AV->Option (List Str)
 |[c]=>dL mc [] c
 |_=>none
def aws(n:Nat)(xs:List Str):NC n (mp nY xs):=Al (r:=mc) xs
def aqA:Row (List Str) where
 enc:=aaK
 mo:=atD
 sz:=1
 ok r x h:=by
  unfold atD at h;split at h
  ·exact vm.cons (Co1.oW (n:=0) (Mb h)) vm.nil
  ·cases h
 nb n x:=⟨aws n x,trivial⟩
def aBH:aqA.enc=aaK/\aqA.mo=atD/\aqA.sz=1:=⟨rfl,rfl,rfl⟩
def awt(x:List Str):atD (aaK x)=some x:=by
 simp only[atD,aaK,dL,Jk,agt,beq_self_eq_true,Bool.true_or,jy,JG]
def aBI(xs:List (List Str)):r6 atD (mp aaK xs)=some xs:=Jb awt xs
attribute [go_sem] aaK atD aBH aBI
theorem an5(s:Str):(sb s).data.toList=s:=by simp [sb]
def atE {b:Nat}:∀{xs:List Str}{j:Nat}{x:Str},nS E 1 b off (mp mc.enc xs)->xs[j]? =some x->E.w.cell? ⟨b,off+j,none⟩=some (.string (sb x)):=by
 intro xs j x h hj;have hg:(mp mc.enc xs)[j]? =some (mc.enc x):=by rw[qD,eA,hj];rfl
 obtain⟨_,hm⟩:=h.get hg;have hm':oz E b (off+j*1) [.str (sb x)]:=hm;obtain⟨⟨_,u,hu,_,hr⟩,_⟩:=hm';have hr':u=.string (sb x):=hr;rw[Nat.mul_one]at hu;rw[hu,hr']
def ayN(he:enters P f=true)
 (h0:∀(a:Option Addr)(c:Nat)(sep:ByteArray)(w:aKd),Calls P f #[.slice a 0 c,.string sep] w fun e w'=>e=.returned (.string ⟨#[]⟩)/\w'=w)
 (h1:∀(bk o c:Nat)(xs:List ByteArray)(sep:ByteArray)(w:aKd),(∀(j:Nat) x,xs[j]? =some x->w.cell? ⟨bk,o+j,none⟩=some (.string x))->bk<w.heap.size->xs.length<=140737488355328->xs.length<=c->(Lib.join (xs.map (·.data.toList)) sep.data.toList).length<=140737488355328->
   Calls P f #[.slice (some ⟨bk,o,none⟩) xs.length c,.string sep] w fun e w'=>e=.returned (.string ⟨(Lib.join (xs.map (·.data.toList)) sep.data.toList).toArray⟩)/\RowKit.Below w.heap.size w w')
 (xs:List Str) (sep:Str) (hlen:(Lib.join xs sep).length<=140737488355328) (hN:xs.length<=140737488355328):
 KD P f [(l8 mc).enc xs,mq.enc sep] (fun v=>v=mq.enc (Lib.join xs sep)):=by
 refine⟨he,⟨(l8 mc).nb 0 _,mq.nb 0 _,trivial⟩,fun C U w hP hw hN0 hM vs hr=>?_⟩;obtain⟨v0,us,hvs,r0,v1,us1,hus,r1,ad8⟩:=hr;obtain⟨base,cap,rfl,CK,_,hno,ahv,L8⟩:=r0;have hv1:v1=.string (sb sep):=r1;have aGG:us1=[]:=ad8;subst hv1 hus aGG;have hl:(mp mc.enc xs).length=xs.length:=M3 _ _;rw[hl]at hvs CK;obtain rfl:vs= #[.slice base xs.length cap,.string (sb sep)]:=by cases vs;simp_all
 have empty:xs=[]->Calls P f #[.slice base xs.length cap,.string (sb sep)] w fun e w'=>∃r v U',(r=mq.enc (Lib.join xs sep))/\e=.returned v/\pg (C.env U' [] w') r v/\w.heap.size<=w'.heap.size/\(∀b,b<w.heap.size->w'.heap[b]? =w.heap[b]?)/\
  (∀x,x.block<w.heap.size->w'.frozen? x=w.frozen? x)/\w'.output=w.output/\w'.os=w.os:=by
  rintro rfl;refine(h0 base cap (sb sep) w).mono ?_;rintro e w' ⟨rfl,rfl⟩;exact⟨_,_,U,rfl,rfl,rfl,dZ _,fun _ _=>rfl,fun _ _=>rfl,rfl,rfl⟩
 cases base with
 |none=>
  refine empty ?_;have:=hno rfl;exact ed (by omega)
 |some a=>
  cases hx:xs with
  |nil=>rw[<-hx];exact empty hx
  |cons x0 xr=>
   rw[<-hx];have sA:mp mc.enc xs≠[]:=by intro h;rw[h]at hl;rw[hx]at hl;simp at hl
   have hs:=ahv a rfl sA;obtain⟨bk,o,sp⟩:=a;simp only at hs;subst hs;have hR:nS (C.env U [] w) 1 bk o (mp mc.enc xs):=L8 _ rfl
   have hc:∀(j:Nat)(x:ByteArray),(xs.map sb)[j]? =some x->w.cell? ⟨bk,o+j,none⟩=some (.string x):=by
    intro j x hj;rw[eA,Option.map_eq_some_iff]at hj;obtain⟨y,hy,rfl⟩:=hj;exact atE hR hy
   have hb:bk<w.heap.size:=FI (hc 0 (sb x0) (by rw[hx];rfl))
   have ar7:(xs.map sb).map (·.data.toList)=xs:=by
    rw[eP];have:((fun b:ByteArray=>b.data.toList) ∘ sb)=id:=by funext s;exact an5 s
    rw[this,List.map_id]
   have aqb:(xs.map sb).length=xs.length:=eG _;have:=h1 bk o cap (xs.map sb) (sb sep) w hc hb (by rw[aqb];exact hN) (by rw[aqb];exact CK) (by rw[ar7,an5];exact hlen);rw[ar7,an5,aqb]at this;refine this.mono ?_;rintro e w' ⟨rfl,hB⟩;exact⟨_,_,U,rfl,rfl,rfl,hB.size,hB.block,fun x hx=>hB.frozen hx,hB.output,hB.os⟩
section aIp
variable {a:Act}
def vwN(H:List jT):List AV->Option (List AV)
 |[]=>some []
 |.agg cs::r=>(vwL H cs).bind fun p=>(vwN H r).bind fun q=>some (.agg p.1::q)
 |c::r=>(vwL H [c]).bind fun p=>(vwN H r).bind fun q=>some (p.1++q)
def aEu(l:Nat):AV->AV
 |.int k n=>.int k n
 |.bool b=>.bool b
 |.str s=>.str s
 |.kW _ _ _=>.lN l 0
 |_=>.any
def aEv(l:Nat):AV->AV
 |.agg cs=>.agg (cs.map (aEu l))
 |x=>aEu l x
def num(l:Nat):AV->AV
 |.Ip cs=>.Ip (cs.map (aEv l))
 |x=>aEv l x
section
variable {E':Dw}
end
end aIp
def ayO{x:Option R}:ny False x=none:=by simp [ny]
theorem au2{n:Nat}{r:List AV}:∀{rows:List (List AV)}{i:Nat},NC n rows->NC n (rows.set i r)=(rows.length<=i\/w5 n r)
 |[],_,_=>eq_true trivial|>.trans (eq_true (.inl (eo _))).symm
 |_::_,0,h=>by
  grind [NC]
 |_::rows,i+1,h=>by
  show(w5 n _/\NC n (rows.set i r))=_;rw[au2 (rows:=rows) (i:=i) h.2];exact propext ⟨fun q=>q.2.imp Nat.succ_le_succ id,fun q=>⟨h.1,q.imp Nat.le_of_succ_le_succ id⟩⟩
def atF {S:Type}{p:Prop}{x:Option R}{f:R->Option S}:(ny p x).bind f=ny p (x.bind f):=by
 unfold ny;split<;>rfl
def ayP{xs:List W}{r:W}{n:Int}{f:W->Option O}:(Ab (xs.set n.toNat r) n).bind f=bif decide (0<=n)&&decide (n.toNat<xs.length)then f r else none:=by
 grind [Ab]
def aBJ{xs:List W}{r:W}{f:W->Option O}:((xs.set i r)[i]?).bind f=bif decide (i<xs.length)then f r else none:=by
 grind
def atG{e e':Ent}(h:Uo P f (rq e))(h':Uo P f (rq e')):Uo P f (rq (Uq e e')):=by
 intro args r he;unfold rq at he;obtain⟨hn,he⟩:=mg.1 he;rw[dM]at he;obtain⟨q,hq,he⟩:=he;unfold Uq at hq;rw[eK]at hq;rcases hq with hq|⟨_,hq⟩
 ·exact h args r (mg.2 ⟨hn,by rw[hq];exact he⟩)
 ·exact h' args r (mg.2 ⟨hn,by rw[hq];exact he⟩)
def aqB(n:Nat)(xs:List Str)(i:Nat)(r:List AV):NC n ((mp nY xs).set i r)=(xs.length<=i\/w5 n r):=by
 rw[au2 (rows:=mp nY xs) (Al (r:=mc) xs),M3]
def ayQ(n:Int):Str:=(Utf8.encode n).data.toList
def awu(n:Int):Utf8.encode n=sb (ayQ n):=(anU _).symm
def an6{x y:Option W}{g:W->O}:(x.bind fun r=>some (g r)).or (y.bind fun r=>some (g r))=(x.or y).bind fun r=>some (g r):=by cases x<;>rfl
def aBK(r:Row W):AV->Option (List W)
 |.kW true sz rows=>bif Jk sz r.sz rows then r6 r.mo rows else none
 |_=>none
def alm {sz:Nat}(h:Jk sz k rows=true)(hs:OY rows xD):LY (.kW true sz rows) (.kW true k xD):=by
 intro E v r;obtain⟨base,cap,h1,h2,_,h4,h5,h6⟩:=XC (t:=true) h hs E v r;obtain⟨aFF,aFG,h1',_,h3',_⟩:=r;have e:=h1.symm.trans h1';simp only[Value.slice.injEq]at e;obtain⟨rfl,_,rfl⟩:=e;exact⟨base,cap,h1,h2,fun _=>by rw[h3' rfl,hs.1],h4,h5,h6⟩
def awv (r:Row W):Ty (List W) where
 enc xs:=.kW true r.sz (mp r.enc xs)
 mo _:=aBK r
 ok H n v xs h:=by
  unfold aBK at h;split at h
  ·rename_i sz rows;cases hs:Jk sz r.sz rows with
   |false=>rw[hs]at h;cases h
   |true=>
    rw[hs,jy]at h;exact Co.sub (alm hs (M4 h).1) (Al xs)
  ·cases h
 nb _ xs:=Al xs
def aEw{r:Row W}:(∀xs,(awv r).enc xs=.kW true r.sz (mp r.enc xs))/\∀H v,(awv r).mo H v=aBK r v:=⟨fun _=>rfl,fun _ _=>rfl⟩
def atH{M:kG R}{k:List Kt}:Gg M p k J (.goto l)=none:=rfl
attribute [go_sem] vwN num aEu aEv aDs aAh aml atF or_true ayP aBJ atH aqB awu an6 aEw aBK Bool.not_true Bool.not_false ayO and_false false_and and_true true_and
theorem XH(s:Str):(sb s).data.toList=s:=by simp [sb]
def au3 {y:AV}{vs:Array aKb}{u v:aKb}(h:ko E [x,y] vs.toList)(hx:∀w,pg E x w->w=u)(hy:∀w,pg E y w->w=v):vs= #[u,v]:=by
 obtain⟨v0,us,hvs,r0,v1,us1,hus,r1,ad8⟩:=h;have aGG:us1=[]:=ad8
 grind
def aDh(c:Int):UInt8:=c.toNat.toUInt8
def aln(he:enters P f=true)
 (h:∀(s:ByteArray)(c:Int)(w:aKd),Calls P f #[.string s,.int .u8 c] w fun e w'=>e=.returned (.int .i64 (Lib.indexByte s.data.toList c.toNat.toUInt8))/\w'=w)
 (s:Str) (c:Int):KD P f [mq.enc s,(mP .u8).enc c] (fun v=>v=(mP .i64).enc (Lib.indexByte s (aDh c))):=by
 refine⟨he,⟨mq.nb 0 _,(mP .u8).nb 0 _,trivial⟩,fun C U w hP hw hN0 hM vs hr=>?_⟩;obtain rfl:=au3 hr (u:=.string (sb s)) (v:=.int .u8 c) (fun _ h=>h) (fun _ h=>h);have:=h (sb s) c w;rw[XH]at this;refine this.mono ?_;rintro e w' ⟨rfl,rfl⟩;exact⟨_,_,U,rfl,rfl,rfl,dZ _,fun _ _=>rfl,fun _ _=>rfl,rfl,rfl⟩
def an7(he:enters P f=true)(hk:aAf g 0)(hkv:∀v,aAg g 0 v->∃m,v=.int .i64 m)
 (h:∀(s sub:ByteArray)(m:Int)(w:aKd),s.size<4294967281->w.cell? ⟨g,0,none⟩=some (.int .i64 m)->Calls P f #[.string s,.string sub] w fun e w'=>e=.returned (.bool (Lib.contains s.data.toList sub.data.toList))/\w'=w)
 (s sub:Str) (hs:s.length<4294967281):KD P f [mq.enc s,mq.enc sub] (fun v=>v=nD.enc (Lib.contains s sub)):=by
 refine⟨he,⟨mq.nb 0 _,mq.nb 0 _,trivial⟩,fun C U w hP hw hN0 hM vs hr=>?_⟩;obtain rfl:=au3 hr (u:=.string (sb s)) (v:=.string (sb sub)) (fun _ h=>h) (fun _ h=>h);obtain⟨v,hv,ayR,_⟩:=C.hk.cell g 0 hk;obtain⟨m,rfl⟩:=hkv v ayR;rw[hw]at hv;have:=h (sb s) (sb sub) m w (by rw[NI];exact hs) hv;rw[XH,XH]at this;refine this.mono ?_;rintro e w' ⟨rfl,rfl⟩;exact⟨_,_,U,rfl,rfl,rfl,dZ _,fun _ _=>rfl,fun _ _=>rfl,rfl,rfl⟩
def aBL(he:enters P f=true)(hk:aAf g 0)(hkv:∀v,aAg g 0 v->∃m,v=.int .i64 m)
 (h:∀(s sep:ByteArray)(m:Int)(w:aKd),s.size<4294967281->w.cell? ⟨g,0,none⟩=some (.int .i64 m)->
   Calls P f #[.string s,.string sep] w fun e w'=>e=.returned (.tuple #[.string ⟨(Lib.cut s.data.toList sep.data.toList).1.toArray⟩,.string ⟨(Lib.cut s.data.toList sep.data.toList).2.1.toArray⟩,.bool (Lib.cut s.data.toList sep.data.toList).2.2])/\∃n,w'=w.drewN n)
 (s sep:Str) (hs:s.length<4294967281):KD P f [mq.enc s,mq.enc sep] (fun v=>v=(ty3 mq mq nD).enc (Lib.cut s sep)):=by
 refine⟨he,⟨mq.nb 0 _,mq.nb 0 _,trivial⟩,fun C U w hP hw hN0 hM vs hr=>?_⟩;obtain rfl:=au3 hr (u:=.string (sb s)) (v:=.string (sb sep)) (fun _ h=>h) (fun _ h=>h);obtain⟨v,hv,ayR,_⟩:=C.hk.cell g 0 hk;obtain⟨m,rfl⟩:=hkv v ayR;rw[hw]at hv;have:=h (sb s) (sb sep) m w (by rw[NI];exact hs) hv;rw[XH,XH]at this;refine this.mono ?_;rintro e w' ⟨rfl,n,rfl⟩;exact⟨_,_,U,rfl,rfl,⟨_,rfl,_,_,rfl,rfl,_,_,rfl,rfl,_,_,rfl,rfl,rfl⟩,dZ _,fun _ _=>rfl,fun _ _=>rfl,rfl,rfl⟩
def an8{t:TypeId}(he:enters P f=true)
 (h:∀(s chars:ByteArray)(w:aKd),2<=chars.size->8<s.size->s.size<4294967281->chars.size<4294967281->(∀(j:Nat) b,chars.data.toList[j]? =some b->b.toNat<128)->
   Calls P f #[.string s,.string chars] w fun e w'=>e=.returned (.int .i64 (Lib.indexAny s.data.toList chars.data.toList))/\∃c d,w'=(w.alloc (.cells c t)).alloc (.cells d t))
 (s chars:Str) (h2:2<=chars.length) (h8:8<s.length) (hs:s.length<4294967281) (hc:chars.length<4294967281) (ha:∀b∈chars,b.toNat<128):
 KD P f [mq.enc s,mq.enc chars] (fun v=>v=(mP .i64).enc (Lib.indexAny s chars)):=by
 refine⟨he,⟨mq.nb 0 _,mq.nb 0 _,trivial⟩,fun C U w hP hw hN0 hM vs hr=>?_⟩;obtain rfl:=au3 hr (u:=.string (sb s)) (v:=.string (sb chars)) (fun _ h=>h) (fun _ h=>h);have hz:∀x:Str,(sb x).size=x.length:=NI;have:=h (sb s) (sb chars) w (by rw[hz];exact h2) (by rw[hz];exact h8) (by rw[hz];exact hs) (by rw[hz];exact hc) (fun j b hb=>ha b (by grind [XH]));rw[XH,XH]at this;refine this.mono ?_;rintro e w' ⟨rfl,c,d,rfl⟩;have aEx:∀(w:aKd)(o:Obj),w.alloc o=World.more w o:=fun _ _=>rfl
 simp only[aEx];have ho:∀(c:Array aKb) c' t' lo hi,Obj.cells c t=.cells c' t' (lo,hi)->lo=0/\hi=0:=by grind
 refine⟨_,_,U,rfl,rfl,rfl,by simp only[Qf];omega,fun b hb=>?_,fun x hx=>?_,rfl,rfl⟩
 ·grind [yO]
 ·rw[wU _ _ (ho d),wU _ _ (ho c)]
section auL
variable {F:Fence}
def agy(ZI:J.df=[]):∀(ds:List Deferred)(w:aKd)(fr:Frame)(cs:List Frame),fr.mode=.returning->fr.defers=ds->F.fn fr.fn->F.room (cs.length+1+n)->mM C U J {tmps:=fr.tmps,defers:=ds} w->
 ∃w',StepsIn (Machine.fenced C.P F) C.P (lone fr cs w) (lone {fr with defers:=[]} cs w')/\mM C U J {tmps:=fr.tmps,defers:=[]} w'
 |[],w,fr,cs,hm,hd,hb,hr,S=>⟨w,by rw[show({fr with defers:=[]}:Frame)=fr by rw[<-hd]];exact StepsIn.refl _,S⟩
 |d::ds,w,fr,cs,hm,hd,hb,hr,S=>by
  have hmk:aeK d=true:=by
   have:=S.defers.2.2;rw[ZI]at this;have ad8:(d::ds).filter (fun d=> !aeK d)=[]:=this
   grind
  obtain⟨D,hD,_⟩:=S.defers.2.1 d (List.mem_cons_self) hmk;subst hD;obtain⟨h1,S'⟩:=S.ae3;have uz:fr.mode≠ .run:=by rw[hm];simp
  have aGH:=step_collected (P:=C.P) (cs:=cs) uz hd rfl (run_takeDeferred h1);have i1:(lone fr cs w).fenced C.P F:=fenced_out hb hr uz hd (fun g hg=>by simp [Target.leads]at hg);obtain⟨w',hs,S2⟩:=agy ZI ds (w.putObj D (.deferred none)) {fr with defers:=[]++ds} cs hm rfl hb hr S';exact⟨w',.head i1 aGH hs,S2⟩
end auL
def Qx(C:qu)(fn:Func)(c₀:Frame)(cs:List Frame)(R:Ending->FrameMode->aKd->Prop):Exit->Act->List Frame->aKd->Prop
 |.normal,a,cs',w|.ret,a,cs',w=>∃u',cs'={c₀ with mode:=u'}::cs/\∃U J,mM C U J a w/\J.df=[]/\
     ∀w',mM C U J {tmps:=a.tmps,defers:=[]} w'->∃v,(results fn a.tmps).run C.P w'=.ok v w'/\R (.returned v) u' w'
 |_,_,_,_=>False
def Sk{F:Fence}{fn:Func}{c:aJ9}{args:Array aKb}{R:Ending->FrameMode->aKd->Prop}
 (hf:C.P.funcs[f]? =some fn) (hb:fn.body=some c) (hF:F.fn f)
 (h:∀(c₀:Frame)(cs:List Frame),c₀.mode=u->c.wpSIn F n C.P (Qx C fn c₀ cs R) {tmps:=args++ec (fn.ntmps-args.size) undef,defers:=[]} (c₀::cs) w):
 CallsDIn F n C.P f args u w R:=by
 refine⟨hF,fun c₀ cs hu NS=>?_⟩
 let b:Frame:={(default:Frame)with fn:=f,kind:=.deferred,roundOf:=none}
 have aEy:Frame.enter C.P f args .deferred=b.atR {tmps:=args++ec (fn.ntmps-args.size) undef,defers:=[]} [.code c]:=by
  grind [Frame.enter,Frame.atR]
 obtain⟨e,a',cs',w',hl,hq,alc⟩:=h c₀ cs hu b [] rfl rfl hF NS;rw[<-aEy]at alc;cases e with
 |normal=>
  obtain⟨u',rfl,U,J,S,ZI,hw⟩:=hq;obtain⟨w2,hs,S2⟩:=agy (F:=F) (n:=n) ZI a'.defers w' {b.atR a' []with mode:=.returning} ({c₀ with mode:=u'}::cs) rfl rfl hF NS S;obtain⟨v,hr,hR⟩:=hw w2 S2;exact⟨.returned v,u',w2,_,hR,StepsIn.trans (StepsIn.trans alc (.one (fenced_calm (fr:=b.atR a' []) hF NS rfl) (stepR_end rfl))) hs,rfl,rfl,rfl,rfl,fn,hf,hr⟩
 |ret=>
  obtain⟨u',rfl,U,J,S,ZI,hw⟩:=hq;obtain⟨todo,hs0⟩:=alc.1 rfl;obtain⟨w2,hs,S2⟩:=agy (F:=F) (n:=n) ZI a'.defers w' {b.atR a' todo with mode:=.returning} ({c₀ with mode:=u'}::cs) rfl rfl hF NS S;obtain⟨v,hr,hR⟩:=hw w2 S2;exact⟨.returned v,u',w2,_,hR,StepsIn.trans hs0 hs,rfl,rfl,rfl,rfl,fn,hf,hr⟩
 |panic chain=>exact hq.elim
 |exit id=>exact hq.elim
 |goto l=>exact hq.elim
 |outgrown=>exact hq.elim
def XI(P:aKc)(j8:Array aJ8):List aJ8->(jJ->Prop)->jJ->Prop
 |[],K,J=>K J
 |o::rest,K,J=>qx j8 o J=some true/\∃e,kQ P J o.op=some e/\e.pre/\XI P j8 rest K (J.app o.dst e)
def Us{C:qu}{j8:Array aJ8}{K:jJ->Prop}{cs:List Frame}{Q:Exit->Act->List Frame->aKd->Prop}
 (hQ:∀U J a w,mM C U J a w->K J->Q .normal a cs w):∀(rest:List aJ8)(k:Nat),j8.toList.drop k=rest->∀(U:Nat->aKb)(J:jJ)(a:Act)(w:aKd),
 XI C.P j8 rest K J->mM C U J a w->wpOpsSIn Fence.wide 0 C.P j8 Q (eQ k rest.length) a cs w
 |[],k,_,U,J,a,w,h,S=>hQ U J a w S h
 |o::rest,k,hk,U,J,a,w,h,S=>by
  have ho:j8[k]? =some o:=by
   have:=congrArg (fun l:List aJ8=>l[0]?) hk;simpa using this
  have uh:j8.toList.drop (k+1)=rest:=by
   grind [List.tail_drop]
  obtain⟨hw,e,he,hp,hr⟩:=h;simp only[eb,List.range'_succ,wpOpsSIn,ho];refine⟨fun _ _=>trivial,?_⟩;rw[zZ S hw,if_pos rfl];obtain⟨m,v,w',U',uz,hn,S'⟩:=Sc S he hp;rw[uz];rcases hn with rfl|⟨rfl,rfl⟩
  ·exact Us hQ rest (k+1) uh U' _ _ w' hr S'
  ·exact Us hQ rest (k+1) uh U' _ _ w' hr S'
def ahw(o:aJ8):Bool:=match o.op with
 |.call {callee:=.builtin .recover,args,..}=>args.isEmpty&&o.guard.isNone
 |_=>false
def aqC(P:aKc)(rs:List ResultVar)(V:vf->List jT->Prop):nU->jJ->Prop
 |.normal,J=>J.df=[]/\agp P rs V none J
 |.ret,J=>J.df=[]/\agp P rs V none J
 |_,_=>False
def adw{fn:Func}{id:Nat}{rest:List aJ8}{u':FrameMode}{v:aKb}{vs0:Array aKb}
 (hf:C.P.funcs[f]? =some fn) (hb:fn.body=some (.seq (.region id j8 false) y)) (ah1:j8.toList=o::rest) (ZH:ahw o=true)
 (aGI:∀(c₀:Frame)(cs:List Frame),c₀.mode=u->recoverD (c₀::cs)=some (v,{c₀ with mode:=u'}::cs)\/(recoverD (c₀::cs)=none/\v=.nilIface/\u'=u)) (hn:fn.ntmps=n) (L1:fn.results=rs.toArray) (hN0:C.N0=H.length) (HS:aAC C U H w) (hra:ko (C.env U H w) args vs0.toList) (hrx:pg (C.env U H w) x v)
 (h:XI C.P j8 rest (fun J1=>∃J2,KB J1 J2/\awp C.P y (aqC C.P rs V) J2) (jJ.put {jV:=args++dU (n-args.length) .any,heap:=H,low:=H.length} o.dst x)):
 CallsDIn Fence.wide 0 C.P f vs0 u w (fun e u2 w'=>∃r,e=.returned r/\u2=u'/\∃o U' H',V o H'/\mM C U' {jV:=[],heap:=H',low:=H.length} {tmps:= #[],defers:=[]} w'/\o.rep (C.env U' H' w') (.returned r)):=by
 have hsz:vs0.size=args.length:=by have:=hra.length;simpa using this
 have S:mM C U {jV:=args++dU (n-args.length) .any,heap:=H,low:=H.length} {tmps:=vs0++ec (fn.ntmps-vs0.size) undef,defers:=[]} w:=by
  refine {HS with jV:=?_,defers:=sQ.nil};simp only[eg,Array.toList_replicate];refine hra.append ?_;rw[hsz,hn];have:=ko.Fc (E:=C.env U H w) (dU (n-args.length) undef);simpa using this
 have It:∀{U':Nat->aKb}{J':jJ}{a'':Act}{w'':aKd},mM C U' J' a'' w''->J'.low=H.length:=fun S'=>by rw[<-S'.low.1];exact hN0
 refine Sk hf hb trivial ?_;intro c₀ cs hu;refine wpSIn_seq (wpSIn_region ?_)
 have Vu:eN j8.size=0::eQ 1 rest.length:=by
  grind [Array.length_toList,List.range_eq_range',List.range'_succ]
 have ho:j8[0]? =some o:=by
  have:j8.toList[0]? =some o:=by rw[ah1];rfl
  simpa using this
 rw[Vu];simp only[wpOpsSIn,ho];refine⟨fun _ _=>trivial,?_⟩
 have uz:(execOp (Act.eval {tmps:=vs0++ec (fn.ntmps-vs0.size) undef,defers:=[]}) o).run C.P w=.ok .recover w/\o.guard=none:=by
  unfold ahw at ZH;split at ZH
  all_goals simp_all [execOp,resolve,invoke,builtin]
 have hw:Region.wanted o (yielded j8 (vs0++ec (fn.ntmps-vs0.size) undef))=true:=by
  unfold Region.wanted;rw[uz.2]
 rw[hw,if_pos rfl,uz.1];have S1:=S.put o.dst hrx
 have key:wpOpsSIn Fence.wide 0 C.P j8 (Exit.thenS (y.wpSIn Fence.wide 0 C.P (Qx C fn c₀ cs (fun e u2 w'=>∃r,e=.returned r/\u2=u'/\∃o U' H',V o H'/\mM C U' {jV:=[],heap:=H',low:=H.length} {tmps:= #[],defers:=[]} w'/\o.rep (C.env U' H' w') (.returned r))))
  (Qx C fn c₀ cs (fun e u2 w'=>∃r,e=.returned r/\u2=u'/\∃o U' H',V o H'/\mM C U' {jV:=[],heap:=H',low:=H.length} {tmps:= #[],defers:=[]} w'/\o.rep (C.env U' H' w') (.returned r)))) (eQ 1 rest.length)
  (Act.put {tmps:=vs0++ec (fn.ntmps-vs0.size) undef,defers:=[]} o.dst v) ({c₀ with mode:=u'}::cs) w:=by
  refine Us (K:=fun J1=>∃J2,KB J1 J2/\awp C.P y (aqC C.P rs V) J2) ?_ rest 1 (by rw[ah1];rfl) U _ _ w h S1;rintro U1 J1 a1 w1 S1 ⟨J2,H6,hy⟩;obtain⟨U2,S2⟩:=H6 C U1 a1 w1 S1;refine wpSIn_of_wpIn rfl (wpIn_mono (ye (ro:=none) y _ U2 J2 a1 w1 (.inl rfl) hy S2) ?_);intro e a' w' hq
  have xw:∀U' J',mM C U' J' a' w'->J'.df=[]/\agp C.P rs V none J'->Qx C fn c₀ cs (fun e u2 w'=>∃r,e=.returned r/\u2=u'/\∃o U' H',V o H'/\mM C U' {jV:=[],heap:=H',low:=H.length} {tmps:= #[],defers:=[]} w'/\o.rep (C.env U' H' w') (.returned r)) .normal a' ({c₀ with mode:=u'}::cs) w':=by
   rintro U' J' S' ⟨ZI,xr,hx,r,H',hex,hV'⟩;refine⟨_,rfl,U',J',S',ZI,fun w'' S''=>?_⟩;obtain⟨vv,hv,rv⟩:=NX (fn:=fn) S'' (by rw[L1];exact hx);obtain⟨U3,S3,hr3⟩:=hex C U' _ w'' S'' vv rv;rw[It S'']at S3;exact⟨vv,hv,vv,rfl,rfl,.ret r,U3,H',hV',S3,hr3⟩
  cases e with
  |normal=>obtain⟨U',J',S',hq⟩:=hq;exact xw U' J' S' hq
  |ret=>obtain⟨U',J',S',hq⟩:=hq;exact xw U' J' S' hq
  |exit id=>obtain⟨_,_,_,hq⟩:=hq;exact hq.elim
  |goto l=>obtain⟨_,_,_,hq⟩:=hq;exact hq.elim
  |panic chain=>obtain⟨_,_,_,_,_,hq,_⟩:=hq;exact hq.elim
  |outgrown=>exact hq.elim
 rcases aGI c₀ cs hu with hm|⟨hm,hv,hu'⟩
 ·simp only[hm];exact key
 ·simp only[hm];subst hv hu';rw[show({c₀ with mode:=u'}:Frame)=c₀ by rw[<-hu]]at key;exact key
def ah2{fn:Func}{id:Nat}{rest:List aJ8}(hf:P.funcs[f]? =some fn)(hb:fn.body=some (.seq (.region id j8 false) y))(ah1:j8.toList=o::rest)(ZH:ahw o=true)
 (G9:w5 H.length (args++[x])) (H7:∀x∈H,rJ H.length x) (hn:fn.ntmps=n) (L1:fn.results=rs.toArray)
 (h:XI P j8 rest (fun J1=>∃J2,KB J1 J2/\awp P y (aqC P rs V) J2) (jJ.put {jV:=args++dU (n-args.length) .any,heap:=H,low:=H.length} o.dst x)):FnT P (ale P f) (args++[x]) H V:=by
 refine⟨G9,H7,fun C U w hP h0 hN0 hφ0 hM HS vs hr vs0 v hvs=>?_⟩;subst hP;subst hvs
 have hr':ko (C.env U H w) args vs0.toList/\pg (C.env U H w) x v:=by
  rw[Array.toList_push]at hr
  have hl:vs0.toList.length=args.length:=by
   have:=hr.length;simp at this;simpa using this
  have h1:=hr.take args.length;have h2:=hr.drop args.length;rw[dW rfl,dW hl]at h1;rw[dX rfl,dX hl]at h2;obtain⟨u,us,he,r1,_⟩:=h2
  grind
 refine xL (adw (u':=.panicking [{v,recovered:=true}]) hf hb ah1 ZH (fun c₀ cs hu=>.inl (by simp only[recoverD,hu])) hn L1 hN0 HS hr'.1 hr'.2 h) ?_;rintro e u' w' ⟨r,rfl,rfl,uh⟩;exact⟨r,rfl,.inl ⟨rfl,uh⟩⟩
def ah3{fn:Func}{id:Nat}{rest:List aJ8}(hf:P.funcs[f]? =some fn)(hb:fn.body=some (.seq (.region id j8 false) y))(ah1:j8.toList=o::rest)(ZH:ahw o=true)
 (G9:w5 H.length args) (H7:∀x∈H,rJ H.length x) (hn:fn.ntmps=n) (L1:fn.results=rs.toArray)
 (h:XI P j8 rest (fun J1=>∃J2,KB J1 J2/\awp P y (aqC P rs V) J2) (jJ.put {jV:=args++dU (n-args.length) .any,heap:=H,low:=H.length} o.dst (.sO .nilIface))):FnT P (ald P f) args H V:=by
 refine⟨G9,H7,fun C U w hP h0 hN0 hφ0 hM HS vs hr=>?_⟩;subst hP;refine xL (adw (u':=.returning) (x:=.sO .nilIface) (v:=.nilIface) hf hb ah1 ZH (fun c₀ cs hu=>.inr ⟨by simp only[recoverD,hu],rfl,rfl⟩) hn L1 hN0 HS hr rfl h) ?_;rintro e u' w' ⟨r,rfl,rfl,uh⟩;exact⟨r,rfl,rfl,uh⟩
section run
variable {M:kG R}
def ahx{j8:Array aJ8}{K:jJ->Prop}:∀(rest:List aJ8)(J:jJ)(e:nU)(J':jJ),rest.all (fun o=>ajz o.op&&(match o.op with|.call _=>false|.defer _=>false|_=>o.guard.isNone))=true->vS M j8 rest J=some (e,J')->K J'->XI M.P j8 rest K J
 |[],J,e,J',_,h,hK=>by simp only[vS,dN,dO]at h;obtain⟨_,rfl⟩:=h;exact hK
 |o::rest,J,e,J',hc,h,hK=>by
  rw[ey,dQ,dQ]at hc;obtain⟨⟨h1,h2⟩,h3⟩:=hc
  have hg:o.guard=none:=by
   split at h2
   all_goals simp_all
  have hw:qx j8 o J=some true:=by unfold qx;rw[hg]
  have hgs:wg j8 o true J=J:=anK hw;simp only[vS,hw,jy,hgs,aaE h1,ap3 h1]at h
  have hy:Hf J o.op=none:=by
   unfold Hf
   grind
  have hd:Hg J o.op=none:=by
   unfold Hg
   grind
  simp only[hy,hd]at h;cases he:kQ M.P J o.op with
  |none=>simp only[he]at h;cases h
  |some e'=>
   simp only[he]at h;rw[mg]at h;exact⟨hw,e',he,h.1,ahx rest _ e J' h3 h.2 hK⟩
def acs(rest:List aJ8):Bool:=rest.all fun o=>ajz o.op&&(match o.op with|.call _=>false|.defer _=>false|_=>o.guard.isNone)
def au4{id:Nat}{rest:List aJ8}{r:R}(G:Hh M)(Ma:M.body= .seq (.region id j8 false) y)(aqD:acs rest=true)
 (ahT:∀J,M.out J=some r->Q .normal J/\Q .ret J) (h:run M [.j8 j8 rest,.cut [1],.at [1]] J=some r) (hP:∀x J',M.pP x J'=none:=by intros;rfl):XI M.P j8 rest (fun J1=>∃J2,KB J1 J2/\awp M.P y Q J2) J:=by
 have h':xw M [.j8 j8 rest,.cut [1],.at [1]] .normal J=some r:=h;rw[qv (by simp)]at h';simp only[Aj]at h';cases hx:vS M j8 rest J with
 |none=>simp only[hx]at h';cases h'
 |some q=>
  obtain⟨e,J1⟩:=q
  have aGJ:e=.normal:=XB rest J e J1 (by
   grind [acs]) hx
  subst aGJ;simp only[hx]at h';refine ahx rest J _ J1 aqD hx ?_;rw[qv (by simp)]at h';simp only[Aj]at h';cases aDM:M.cut [1] J1 with
  |none=>grind
  |some J2=>
   simp only[aDM,eF]at h';refine⟨J2,G.cut _ _ _ aDM,?_⟩;have h1:sub [1] M.body=y:=by rw[Ma];rfl
   rw[qv (by simp)]at h';simp only[Aj,h1]at h';cases RC:exec M y [1] J2 with
   |none=>simp only[RC]at h';cases h'
   |some q=>
    obtain⟨e2,J3⟩:=q;simp only[RC]at h';refine Ai G _ [1] _ _ e2 J3 RC ?_;cases e2 with
    |normal=>exact(ahT J3 h').1
    |ret=>exact(ahT J3 h').2
    |panic x=>simp only[xw,hP]at h';cases h'
    |_=>simp only[xw]at h';cases h'
end run
end Go.Abs
end
