/- A part of the proof: abstract states and the rules for them. -/
import Derived.Test.YtpdbjkgnmjnebaaGreatDoorCoreB
import Derived.Attr
import Derived.Laws.StructEq
import Derived.ChangeKeysEq
import Derived.Below
import Derived.Laws.AppendOwn
import Derived.Lib.Join
import Derived.Lib.SplitLaws
import Derived.Lib.IndexAny
import Derived.Lib.IndexMore
import Derived.Deep.Draws
import Derived.RecoverIn
set_option linter.all false
open Go renaming Oper→aRH,Code→aRI,FuncId→aRJ,Value→aRK,Program→aRL,World→aRM,IntKind→aRN
open Option renaming bind_eq_some_iff→dV,bind_some→ep,map_some→eK,map_eq_some_iff→eP,or_eq_some_iff→eQ,map→eX
open Option.some renaming injEq→dW
open Prod.mk renaming injEq→dX
open Bool renaming and_eq_true→dY
open List renaming getElem?_eq_getElem→dZ,replicate→eb,getElem?_eq_some_iff→ec,take_left'→ed,drop_left'→eg,getElem?_set_self→ek,length_cons→eu,eq_nil_of_length_eq_zero→ey,map_congr_left→eA,getElem?_cons_succ→eB,getElem?_of_mem→eE,all_cons→eF,mem_cons→eG,getElem?_map→eH,isEmpty_nil→eI,getElem?_cons_zero→eJ,length_map→eL,length_set→eM,nil_append→eO,take_append_drop→eR,mem_of_getElem?→eS,range→eT,map_cons→eU,map_map→eV,range'→eW
open Nat renaming le_refl→eo,zero_le→eC,not_lt_zero→eN
open Array renaming replicate→ew,toList_append→ez
open List.cons renaming injEq→eD
noncomputable section
namespace Go.Abs
variable {W:Type}{r v x:AV}{kE:Array aRH}{b:Bool}{E:CS}{y:aRI}{u:FrameMode}{f:aRJ}{js:List (Int×aRI)}{rows xJ:List (List AV)}{args cs ds s ys:List AV}{base p rd Y:List Nat}{rest:List aRH}{rs:List ResultVar}{tr:List Tr}{H H' Ys Ys' nw:List j5}{st:LoopState}{a g i j k l l0 low m n off:Nat}{τ:Nat->Nat}{U:Nat->aRK}{O O':Type}{o:aRH}{c:Operand}{dst:Option Tmp}{P:aRL}{pr:Prop}{R W':Type}{h:aRK}{T:aRK->aRM->Array aRK->(Ending->aRM->Prop)->Prop}{w:aRM}{J J':jS}{Q:oo->jS->Prop}{C:qC}{V:vu->List j5->Prop}{lk lk':xI}{F:O->W->Option (O'×W')}
def am1:Nat->aRI->aRI
 |0,.seq x _=>x
 |1,.seq _ y=>y
 |0,.cond _ x _=>x
 |1,.cond _ _ y=>y
 |0,.block _ x=>x
 |0,.loop x=>x
 |0,.scope x=>x
 |_,_=>.skip
def sub:List Nat->aRI->aRI
 |[],c=>c
 |d::p,c=>am1 d (sub p c)
inductive Kt where
 |at (p:List Nat)
 |cut (p:List Nat)
 |kE (kE:Array aRH) (rest:List aRH)
 |XB (p:List Nat) (rest:List aRH) (j:Nat) (tr:List Tr)
 |qg (id:Nat)
 |lp (m:Nat) (p:List Nat)
 |lq (m:Nat) (p:List Nat)
 |rb
 |rd
def aCo(J:jS):Option j5->Option jS
 |some (.loop k s .ready 0)=>some {J with heap:=J.heap.set 0 (.loop k s .busy 0)}
 |_=>none
def aoZ(J:jS):Option jS:=aCo J J.heap[0]?
section

def aCp:aRI->Array aRH
 |.region _ kE _=>kE
 |_=> #[]
def ue(M:kK R)(p:List Nat):Array aRH:=aCp (sub p M.body)
def Au(M:kK R):Kt->jS->Option (oo×jS)
 |.at p,J=>exec M (sub p M.body) p J
 |.cut p,J=>(M.cut p J).map fun J'=>(.normal,J')
 |.kE kE rest,J=>vW M kE rest J
 |.XB p rest j tr,J=>Ms M (ue M p) rest j tr J
 |.qg _,J=>some (.normal,J)
 |.lp m p,J=>(M.qj p J).bind (lqN (M.qj p) (exec M (sub (0::p) M.body) (0::p)) m)
 |.lq m p,J=>lqN (M.qj p) (exec M (sub (0::p) M.body) (0::p)) m J
 |.rb,J=>(aoZ J).map fun J'=>(.normal,J')
 |.rd,_=>none
def y9(M:kK R):List Kt->oo->jS->Option R
 |[],.normal,J=>M.out J
 |[],.ret,J=>M.out J
 |[],.panic x,J=>M.rk x J
 |[],_,_=>none
 |.rd::_,e,J=>M.l1 e J
 |.qg id::k,.exit id',J=>if id'=id then y9 M k .normal J else y9 M k (.exit id') J
 |x::k,.normal,J=>match Au M x J with
  |some (e,J')=>y9 M k e J'
  |none=>none
 |_::k,e,J=>y9 M k e J
def run(M:kK R)(k:List Kt)(J:jS):Option R:=y9 M k .normal J
variable {M:kK R} {k:List Kt}
def aJt:run M [] J=M.out J:=rfl
def aJu{id:Nat}:run M (.qg id::k) J=run M k J:=rfl
theorem qF{x:Kt}(h:∀id,x≠ .qg id)(h2:x≠ .rd:=by simp):y9 M (x::k) .normal J=match Au M x J with
 |some (e,J')=>y9 M k e J'
 |none=>none:=by
 cases x<;>first|rfl|exact absurd rfl (h _)|exact absurd rfl h2
def azO:run M (.kE kE []::k) J=run M k J:=rfl
def axz:run M (.XB p [] j tr::k) J=run M k J:=rfl
def wy(id:Nat):List Kt->Option (List Kt)
 |[]=>none
 |.qg id'::k=>if id=id' then some k else wy id k
 |.rd::_=>none
 |_::k=>wy id k
def aNQ:Kt->Bool
 |.rd=>true
 |_=>false
def azP:List Kt->Bool
 |[]=>false
 |x::k=>aNQ x||azP k
def JD{id:Nat}:∀{k k':List Kt},wy id k=some k'->y9 M k (.exit id) J=run M k' J
 |[],_,h=>by simp [wy]at h
 | .qg id'::k,k',h=>by
   simp only[wy]at h;split at h
   ·rename_i e;cases h;subst e;simp only[y9,jM];rfl
   ·rename_i e;simp only[y9,e,if_false];exact JD h
 |.at _::k,k',h=>JD (k:=k) (by simpa [wy] using h)
 |.cut _::k,k',h=>JD (k:=k) (by simpa [wy] using h)
 |.kE _ _::k,k',h=>JD (k:=k) (by simpa [wy] using h)
 |.XB _ _ _ _::k,k',h=>JD (k:=k) (by simpa [wy] using h)
 |.lp _ _::k,k',h=>JD (k:=k) (by simpa [wy] using h)
 |.lq _ _::k,k',h=>JD (k:=k) (by simpa [wy] using h)
 |.rb::k,k',h=>JD (k:=k) (by simpa [wy] using h)
 |.rd::k,k',h=>by simp [wy]at h
def JE{id:Nat}:∀{k:List Kt},wy id k=none->y9 M k (.exit id) J=bif azP k then M.l1 (.exit id) J else none
 |[],_=>rfl
 | .qg id'::k,h=>by
   simp only[wy]at h;split at h
   ·cases h
   ·rename_i e;simp only[y9,e,if_false];exact JE h
 |.rb::k,h=>JE (k:=k) (by simpa [wy] using h)
 |.rd::k,h=>rfl
 |.at _::k,h=>JE (k:=k) (by simpa [wy] using h)
 |.cut _::k,h=>JE (k:=k) (by simpa [wy] using h)
 |.kE _ _::k,h=>JE (k:=k) (by simpa [wy] using h)
 |.XB _ _ _ _::k,h=>JE (k:=k) (by simpa [wy] using h)
 |.lp _ _::k,h=>JE (k:=k) (by simpa [wy] using h)
 |.lq _ _::k,h=>JE (k:=k) (by simpa [wy] using h)
def Qq:∀{k:List Kt},y9 M k .ret J=bif azP k then M.l1 .ret J else M.out J
 |[]=>rfl
 |.rb::k=>Qq (k:=k)
 |.rd::k=>rfl
 |.qg _::k=>Qq (k:=k)
 |.at _::k=>Qq (k:=k)
 |.cut _::k=>Qq (k:=k)
 |.kE _ _::k=>Qq (k:=k)
 |.XB _ _ _ _::k=>Qq (k:=k)
 |.lp _ _::k=>Qq (k:=k)
 |.lq _ _::k=>Qq (k:=k)
def axA(M:kK R)(x:AV)(J:jS)(k:List Kt):Option R:=bif azP k then M.l1 (.panic x) J else M.rk x J
theorem C1{x:AV}:∀{k:List Kt},y9 M k (.panic x) J=axA M x J k
 |[]=>rfl
 |.rb::k=>C1 (k:=k)
 |.rd::k=>rfl
 |.qg _::k=>C1 (k:=k)
 |.at _::k=>C1 (k:=k)
 |.cut _::k=>C1 (k:=k)
 |.kE _ _::k=>C1 (k:=k)
 |.XB _ _ _ _::k=>C1 (k:=k)
 |.lp _ _::k=>C1 (k:=k)
 |.lq _ _::k=>C1 (k:=k)
def awl(M:kK R)(J:jS)(id:Nat)(k:List Kt):Option (List Kt)->Option R
 |some k=>run M k J
 |none=>bif azP k then M.l1 (.exit id) J else none
def aCq{id:Nat}{k k':List Kt}:awl M J id k (some k')=run M k' J:=rfl
def aCr{id:Nat}{k:List Kt}:awl M J id k none=bif azP k then M.l1 (.exit id) J else none:=rfl
def aHo(M:kK R)(J:jS)(k:List Kt):Option R:=bif azP k then M.l1 .ret J else M.out J
def akq(M:kK R)(k:List Kt)(J:jS):Option aRI->Option R
 |none=>run M k J
 |some .ret=>aHo M J k
 |some (.exit id)=>awl M J id k (wy id k)
 |_=>none
def asx(M:kK R)(k:List Kt)(J:jS)(H':List j5):Option j5->Option R
 |some (.loop lk _ st uA)=>nX (st=stP (pV lk.js uA)) (akq M k {J with heap:=H'.set J.heap.length .vZ} (pV lk.js uA))
 |_=>none
def aly(M:kK R)(k:List Kt)(J:jS):Option (AV×List j5)->Option R
 |some (_,H')=>asx M k J H' H'[J.heap.length]?
 |none=>none
def aEv(M:kK R)(lk:xI)(k:List Kt)(J:jS):AV->Option R
 |.func (.func f) first cap=>aly M k J (M.cl f (first++[.map J.heap.length]++cap) (J.heap++[.loop lk J.j9 .ready 0]))
 |_=>none
def aCs:akq M k J none=run M k J:=rfl
def aFt:akq M k J (some .ret)=aHo M J k:=rfl
def aCt{id:Nat}:akq M k J (some (.exit id))=awl M J id k (wy id k):=rfl
def aCu{x y:Option aRI}:akq M k J (bif b then x else y)=bif b then akq M k J x else akq M k J y:=by cases b<;>rfl
theorem azQ{uA:Int}:asx M k J H' (some (.loop lk s st uA))=nX (st=stP (pV lk.js uA)) (akq M k {J with heap:=H'.set J.heap.length .vZ} (pV lk.js uA)):=rfl
def azR:aly M k J (some (r,H'))=asx M k J H' H'[J.heap.length]? :=rfl
def azS:aly M k J none=none:=rfl
def azT{o:Option W}{f:W->Option (AV×List j5)}:aly M k J (o.bind f)=o.bind fun x=>aly M k J (f x):=by cases o<;>rfl
def aCv{first cap:List AV}:aEv M lk k J (.func (.func f) first cap)=aly M k J (M.cl f (first++[.map J.heap.length]++cap) (J.heap++[.loop lk J.j9 .ready 0])):=rfl
def ao0(M:kK R)(c:Operand)(p:List Nat)(k:List Kt)(J:jS):AV->Option R
 |.bool b=>bif b then run M (.at (0::p)::k) (aso c true J)else run M (.at (1::p)::k) (aso c false J)
 |_=>none
def azU:ao0 M c p k J (.bool true)=run M (.at (0::p)::k) (aso c true J):=rfl
def axB:ao0 M c p k J (.bool false)=run M (.at (1::p)::k) (aso c false J):=rfl
def aCw:ao0 M c p k J (.bool b)=bif b then run M (.at (0::p)::k) (aso c true J)else run M (.at (1::p)::k) (aso c false J):=rfl
def so(M:kK R)(p:List Nat):Bool:=
 match sub p M.body with
 |.region _ kE _=>KL kE
 |_=>false
def aCx(js:List (Int×aRI)):aRI->xI
 |.rangeFunc _ ps aRs body=>⟨ps,aRs,body,js⟩
 |_=>⟨#[],.skip,.skip,[]⟩
def lkM(M:kK R)(p:List Nat):xI:=aCx (M.js p) (sub p M.body)
def GP(M:kK R)(p:List Nat)(k:List Kt)(J:jS):aRI->Option R
 |.skip=>run M k J
 |.region _ kE false=>run M (.kE kE kE.toList::k) J
 |.region _ kE true=>nX (M.P.follows .mixedOrders=true/\so M p=true) (run M (.XB p kE.toList 0 []::k) J)
 |.seq _ _=>run M (.at (0::p)::.cut (1::p)::.at (1::p)::k) J
 |.cond c _ _=>ao0 M c p k J (J.ev c)
 |.block id _=>run M (.at (0::p)::.qg id::k) J
 |.loop _=>run M (.lp M.n p::k) J
 |.exit id=>awl M J id k (wy id k)
 |.scope _=>run M (.at (0::p)::k) J
 |.label _=>run M k J
 |.ret=>aHo M J k
 |.rangeFunc g _ _ _=>aEv M (lkM M p) k J (J.ev g)
 |_=>none
theorem aFu{id:Nat}{e:oo}:y9 M (.qg id::k) e J=match (match e with
 |.exit id'=>if id'=id then(oo.normal,J)else(.exit id',J)
 |e=>(e,J))with
 |(e,J)=>y9 M k e J:=by
 cases e with
 |exit id'=>
  simp only[y9];split<;>rfl
 |_=>rfl
theorem azV{x:Kt}{e:oo}(h:∀id,x≠ .qg id)(he:e≠ .normal)(h2:x≠ .rd:=by simp):y9 M (x::k) e J=y9 M k e J:=by
 cases x<;>cases e<;>first|rfl|exact absurd rfl (h _)|exact absurd rfl he|exact absurd rfl h2
def aL1:run M (.at p::k) J=GP M p k J (sub p M.body):=by
 show y9 M (.at p::k) .normal J=_;rw[qF (by simp)];simp only[Au];cases hc:sub p M.body with
 |skip=>rfl
 |region id kE b=>
  cases b with
  |false=>
   simp only[exec,GP];show _=y9 M (.kE kE kE.toList::k) .normal J
   grind [qF,Au]
  |true=>
   simp only[exec,GP];show _=nX _ (y9 M (.XB p kE.toList 0 []::k) .normal J)
   grind [qF,Au,so,ue,aCp,nX]
 |seq x y=>
  simp only[exec,GP];show _=y9 M (.at (0::p)::.cut (1::p)::.at (1::p)::k) .normal J;rw[qF (by simp)];have h0:sub (0::p) M.body=x:=by simp [sub,hc,am1]
  have h1:sub (1::p) M.body=y:=by simp [sub,hc,am1]
  simp only[Au,h0];cases hx:exec M x (0::p) J with
  |none=>rfl
  |some r=>
   obtain⟨e1,J1⟩:=r;cases e1 with
   |normal=>
    simp only;rw[qF (by simp)];simp only[Au];cases aL2:M.cut (1::p) J1 with
    |none=>rfl
    |some J2=>
     grind [qF,Au]
   |_=>
    simp_all [azV]
 |cond c x y=>
  simp only[exec,GP];have h0:sub (0::p) M.body=x:=by simp [sub,hc,am1]
  have h1:sub (1::p) M.body=y:=by simp [sub,hc,am1]
  cases hv:J.ev c with
  |bool b=>
   simp only[ao0];cases b with
   |true=>
    simp only[jE];show _=y9 M (.at (0::p)::k) .normal _
    grind [qF,Au]
   |false=>
    simp only[jF];show _=y9 M (.at (1::p)::k) .normal _
    grind [qF,Au]
  |_=>rfl
 |block id x=>
  simp only[exec,GP];have h0:sub (0::p) M.body=x:=by simp [sub,hc,am1]
  show _=y9 M (.at (0::p)::.qg id::k) .normal J
  grind [qF,Au,aFu]
 |loop x=>
  simp only[exec,GP];have h0:sub (0::p) M.body=x:=by simp [sub,hc,am1]
  show _=y9 M (.lp M.n p::k) .normal J
  grind [qF,Au]
 |exit id=>
  simp only[exec,GP];cases hb:wy id k with
  |none=>exact JE hb
  |some k'=>exact JD hb
 |scope x=>
  simp only[exec,GP];have h0:sub (0::p) M.body=x:=by simp [sub,hc,am1]
  show _=y9 M (.at (0::p)::k) .normal J
  grind [qF,Au]
 |label l=>rfl
 |ret=>exact Qq
 |goto l=>rfl
 |rangeFunc g ps aRs body=>
  have hlk:lkM M p=⟨ps,aRs,body,M.js p⟩:=by simp only[lkM,hc,aCx]
  simp only[exec,GP,hlk];cases hv:J.ev g with
  |func fn first cap=>
   cases fn with
   |func f=>
    simp only[aHi,aEv];cases hcl:M.cl f (first++[.map J.heap.length]++cap) (J.heap++[.loop ⟨ps,aRs,body,M.js p⟩ J.j9 .ready 0])with
    |none=>rfl
    |some q=>
     obtain⟨r,H'⟩:=q;simp only[aly];cases hH:H'[J.heap.length]? with
     |none=>rfl
     |some x=>
      cases x with
      |loop lk s st uA=>
       simp only[aJo,asx];by_cases hst:st=stP (pV lk.js uA)
       ·simp only[nX,if_pos hst];generalize pV lk.js uA=pc;cases pc with
        |none=>rfl
        |some c=>
         cases c with
         |ret=>exact Qq
         |exit id=>
          simp only[azJ,akq];cases hb:wy id k with
          |none=>exact JE hb
          |some k'=>exact JD hb
         |_=>rfl
       ·simp only[nX,if_neg hst]
      |_=>rfl
   |_=>rfl
  |_=>rfl
 |refuse s=>rfl
def aCy:GP M p k J .skip=run M k J:=rfl
def axC{id:Nat}:GP M p k J (.region id kE false)=run M (.kE kE kE.toList::k) J:=rfl
def aCz{id:Nat}:GP M p k J (.region id kE true)=nX (M.P.follows .mixedOrders=true) (nX (so M p=true) (run M (.XB p kE.toList 0 []::k) J)):=by
 rw[<-ajD];rfl
def aFv {x:aRI}:GP M p k J (.seq x y)=run M (.at (0::p)::.cut (1::p)::.at (1::p)::k) J:=rfl
def aCA {x:aRI}:GP M p k J (.cond c x y)=ao0 M c p k J (J.ev c):=rfl
def azW{id:Nat}{x:aRI}:GP M p k J (.block id x)=run M (.at (0::p)::.qg id::k) J:=rfl
def aCB{x:aRI}:GP M p k J (.loop x)=run M (.lp M.n p::k) J:=rfl
def aCC{id:Nat}:GP M p k J (.exit id)=awl M J id k (wy id k):=rfl
def azX{g:Operand}{ps:Array Tmp}{aRs body:aRI}:GP M p k J (.rangeFunc g ps aRs body)=aEv M (lkM M p) k J (J.ev g):=rfl
def azY{x:aRI}:GP M p k J (.scope x)=run M (.at (0::p)::k) J:=rfl
def azZ:GP M p k J (.label l)=run M k J:=rfl
def aFw:GP M p k J .ret=aHo M J k:=rfl
def aL3:run M (.rb::k) J=(aoZ J).bind fun J'=>run M k J':=by
 show y9 M (.rb::k) .normal J=_;rw[qF (by simp)];simp only[Au];cases aoZ J<;>rfl
def aL4:run M (.rd::k) J=M.l1 .normal J:=rfl
def arO:run M (.cut p::k) J=(M.cut p J).bind fun J'=>run M k J':=by
 show y9 M (.cut p::k) .normal J=_;rw[qF (by simp)];simp only[Au];cases M.cut p J<;>rfl
def aL5:run M (.lp m p::k) J=(M.qj p J).bind fun J'=>run M (.lq m p::k) J':=by
 show y9 M (.lp m p::k) .normal J=_;rw[qF (by simp)];simp only[Au];cases h:M.qj p J with
 |none=>rfl
 |some J'=>
  simp only[ep];show _=y9 M (.lq m p::k) .normal J'
  grind [qF,Au]
def Li:run M (.lq 0 p::k) J=none:=by
 show y9 M (.lq 0 p::k) .normal J=_
 grind [qF,Au,lqN]
theorem D3:run M (.lq (m+1) p::k) J=run M (.at (0::p)::.lp m p::k) J:=by
 show y9 M (.lq (m+1) p::k) .normal J=y9 M (.at (0::p)::.lp m p::k) .normal J;rw[qF (by simp),qF (by simp)];simp only[Au,lqN];cases hx:exec M (sub (0::p) M.body) (0::p) J with
 |none=>rfl
 |some r=>
  obtain⟨e1,J1⟩:=r;cases e1 with
  |normal=>
   grind [qF,Au]
  |_=>
   grind [azV]
def tO(M:kK R)(kE:Array aRH)(dst:Option Tmp)(rest:List aRH)(k:List Kt)(J:jS):Option vF->Option R
 |some e=>nX e.pre (run M (.kE kE rest::k) (J.app dst e))
 |none=>none
def VO(M:kK R)(kE:Array aRH)(dst:Option Tmp)(rest:List aRH)(k:List Kt)(J:jS):Option (AV×List j5)->Option R
 |some (r,H')=>run M (.kE kE rest::k) (jS.put {J with heap:=H'} dst r)
 |none=>none
def Yh(M:kK R)(kE:Array aRH)(dst:Option Tmp)(rest:List aRH)(k:List Kt)(J:jS):Option (vu×List j5)->Option R
 |some (.ret r,H')=>run M (.kE kE rest::k) (jS.put {J with heap:=H'} dst r)
 |some (.panic x,H')=>axA M x {J with heap:=H'} k
 |none=>none
def aEw(M:kK R)(kE:Array aRH)(dst:Option Tmp)(rest:List aRH)(k:List Kt)(J:jS):Option (aRJ×List AV)->Option R
 |some p=>run M (.kE kE rest::k) (J.dfr p dst)
 |none=>none
def aEx(M:kK R)(k:List Kt)(J:jS):Option AV->Option R
 |some x=>axA M x J k
 |none=>none
def xb(M:kK R)(kE:Array aRH)(dst:Option Tmp)(rest:List aRH)(k:List Kt)(J:jS):Op->Option R
 |.defer c=>aEw M kE dst rest k J (Ih J (.defer c))
 |.panic x=>aEx M k J (aa4 J (.panic x))
 |o=>tO M kE dst rest k J (lG M.P J o)
def awm(M:kK R)(kE:Array aRH)(o:aRH)(rest:List aRH)(k:List Kt)(J:jS):Option (Nat×List AV)->Option R
 |some (l,args)=>VO M kE o.dst rest k J (M.cy l args J.heap)
 |none=>xb M kE o.dst rest k J o.op
def asy(M:kK R)(kE:Array aRH)(o:aRH)(rest:List aRH)(k:List Kt)(J:jS):Option (aRJ×List AV)->Option R
 |some (f,args)=>bif M.wx f then Yh M kE o.dst rest k J (M.cp f args J.heap)else VO M kE o.dst rest k J (M.cl f args J.heap)
 |none=>awm M kE o rest k J (Ig J o.op)
def az0(M:kK R)(kE:Array aRH)(o:aRH)(rest:List aRH)(k:List Kt)(J:jS):Option Bool->Option R
 |none=>none
 |some b=>bif b then asy M kE o rest k (wq kE o true J) (nT (wq kE o true J) o.op)else run M (.kE kE rest::k) ((wq kE o false J).put o.dst (.sV undef))
def aJv:run M (.kE kE (o::rest)::k) J=az0 M kE o rest k J (qG kE o J):=by
 have hr:∀J,run M (.kE kE rest::k) J=match vW M kE rest J with|some (e,J')=>y9 M k e J'|none=>none:=by
  intro J;show y9 M (.kE kE rest::k) .normal J=_
  grind [qF,Au]
 have hl:run M (.kE kE (o::rest)::k) J=match vW M kE (o::rest) J with|some (e,J')=>y9 M k e J'|none=>none:=by
  show y9 M (.kE kE (o::rest)::k) .normal J=_
  grind [qF,Au]
 rw[hl];simp only[vW];cases hw:qG kE o J with
 |none=>rfl
 |some b=>
  simp only[az0];cases b with
  |false=>simp only[jF,hr]
  |true=>
   simp only[jE];cases hc:nT (wq kE o true J) o.op with
   |some q=>
    grind [asy,Yh,C1,VO]
   |none=>
    simp only[asy];cases hy:Ig (wq kE o true J) o.op with
    |some q=>
     grind [awm,VO]
    |none=>
     simp only[awm]
     have key:(∀c,o.op≠ .defer c)->(∀x,o.op≠ .panic x)->xb M kE o.dst rest k (wq kE o true J) o.op=tO M kE o.dst rest k (wq kE o true J) (lG M.P (wq kE o true J) o.op):=by
      simp_all [xb]
     by_cases h1:∃c,o.op=.defer c
     ·obtain⟨c,hc'⟩:=h1;simp only[hc',lG,xb]
      grind [aEw,aa4]
     ·by_cases h2:∃x,o.op=.panic x
      ·obtain⟨x,hx⟩:=h2;simp only[hx,lG,xb,Ih]
       grind [aEx,C1]
      ·rw[key (fun c hc'=>h1 ⟨c,hc'⟩) (fun x hx=>h2 ⟨x,hx⟩)];cases he:lG M.P (wq kE o true J) o.op with
       |none=>
        simp_all [tO,Ih,aa4]
       |some e=>
        grind [tO,nX]
def aCD:az0 M kE o rest k J (some true)=asy M kE o rest k (wq kE o true J) (nT (wq kE o true J) o.op):=rfl
def az1:az0 M kE o rest k J (some false)=run M (.kE kE rest::k) ((wq kE o false J).put o.dst (.sV undef)):=rfl
def aFx:az0 M kE o rest k J (some b)=bif b then asy M kE o rest k (wq kE o true J) (nT (wq kE o true J) o.op)else run M (.kE kE rest::k) ((wq kE o false J).put o.dst (.sV undef)):=rfl
def aCE:asy M kE o rest k J (some (f,args))=bif M.wx f then Yh M kE o.dst rest k J (M.cp f args J.heap)else VO M kE o.dst rest k J (M.cl f args J.heap):=rfl
def aFy:Yh M kE dst rest k J (some (.ret r,H'))=run M (.kE kE rest::k) (jS.put {J with heap:=H'} dst r):=rfl
def aFz:Yh M kE dst rest k J (some (.panic x,H'))=axA M x {J with heap:=H'} k:=rfl
def aCF:Yh M kE dst rest k J none=none:=rfl
def aCG{o:Option W}{f:W->Option (vu×List j5)}:Yh M kE dst rest k J (o.bind f)=o.bind fun x=>Yh M kE dst rest k J (f x):=by
 cases o<;>rfl
def aCH{x y:Option (vu×List j5)}:Yh M kE dst rest k J (bif b then x else y)=bif b then Yh M kE dst rest k J x else Yh M kE dst rest k J y:=by cases b<;>rfl
def aCI{p:aRJ×List AV}:aEw M kE dst rest k J (some p)=run M (.kE kE rest::k) (J.dfr p dst):=rfl
def aCJ:aEx M k J (some x)=axA M x J k:=rfl
def aCK:asy M kE o rest k J none=awm M kE o rest k J (Ig J o.op):=rfl
def aCL:awm M kE o rest k J (some (l,args))=VO M kE o.dst rest k J (M.cy l args J.heap):=rfl
def aCM:awm M kE o rest k J none=xb M kE o.dst rest k J o.op:=rfl
def aCN:tO M kE dst rest k J none=none:=rfl
def aCO{up:List (Nat×j5)}{p:Prop}:
 tO M kE dst rest k J (some {val:=x,rd,up,nw,pre:=p})=nX p (run M (.kE kE rest::k) {J.put dst x with heap:=ni J.heap up++nw}):=rfl
def aCP{o:Option W}{f:W->Option vF}:tO M kE dst rest k J (o.bind f)=o.bind fun x=>tO M kE dst rest k J (f x):=by
 cases o<;>rfl
def aFA{p:Prop}[Decidable p]{a b:Option vF}:tO M kE dst rest k J (if p then a else b)=bif decide p then tO M kE dst rest k J a else tO M kE dst rest k J b:=by
 by_cases h:p<;>simp [h]
def aCQ:VO M kE dst rest k J (some (r,H'))=run M (.kE kE rest::k) (jS.put {J with heap:=H'} dst r):=rfl
theorem asz:VO M kE dst rest k J none=none:=rfl
def aCR{o:Option W}{f:W->Option (AV×List j5)}:VO M kE dst rest k J (o.bind f)=o.bind fun x=>VO M kE dst rest k J (f x):=by
 cases o<;>rfl
def adl(M:kK R)(p:List Nat)(tr:List Tr)(j:Nat)(e:vF):Prop:=adj (ue M p) tr j e
def Mt(M:kK R)(p:List Nat)(i j:Nat):Bool:=aqB (ue M p) i j
def aCS{e:vF}:adl M p tr j e=(e.aoT=true\/(tr.all fun t=>CZ t e||Mt M p t.j j)=true):=rfl
def Av(M:kK R)(p:List Nat)(dst:Option Tmp)(rest:List aRH)(j:Nat)(tr:List Tr)(k:List Kt)(J:jS):Option vF->Option R
 |some e=>nX (e.pre/\adl M p tr j e) (run M (.XB p rest (j+1) (PT tr j J.heap.length e)::k) (J.app dst e))
 |none=>none
def alz(M:kK R)(p:List Nat)(dst:Option Tmp)(rest:List aRH)(j:Nat)(tr:List Tr)(k:List Kt)(J:jS):Option AV->Option R
 |some r=>run M (.XB p rest (j+1) tr::k) (J.put dst r)
 |none=>none
def agW(M:kK R)(p:List Nat)(c:Nat)(rest:List aRH)(j:Nat)(J:jS):Prop:=aba M.P (ue M p) c rest j J
def Zt(M:kK R)(p:List Nat)(c:Nat):Bool:=azC (ue M p) c
def So(M:kK R)(p:List Nat)(dst:Option Tmp)(rest:List aRH)(j:Nat)(tr:List Tr)(k:List Kt)(J:jS):Option CO->Option R
 |some (.ret e)=>Av M p dst rest j tr k J (some e)
 |some (.pan x H')=>nX (Zt M p j=true\/(VM tr=true/\agW M p j rest (j+1) (J.put dst (.sV undef)))) (axA M x {J with j9:=adi (ue M p) J.j9,heap:=H'} k)
 |none=>none
def alD(M:kK R)(p:List Nat)(o:aRH)(rest:List aRH)(j:Nat)(tr:List Tr)(k:List Kt)(J:jS):Option (aRJ×List AV)->Option R
 |some (f,args)=>bif M.uz f then So M p o.dst rest j tr k J (M.co f args J.heap)else bif M.uC f then Av M p o.dst rest j tr k J (M.ce f args J.heap)else alz M p o.dst rest j tr k J (M.cd f args)
 |none=>Av M p o.dst rest j tr k J (lG M.P J o.op)
def asB(M:kK R)(p:List Nat)(o:aRH)(rest:List aRH)(j:Nat)(tr:List Tr)(k:List Kt)(J:jS):Option Bool->Option R
 |none=>none
 |some b=>bif b then alD M p o rest j tr k (wq (ue M p) o true J) (nT (wq (ue M p) o true J) o.op)else run M (.XB p rest (j+1) tr::k) ((wq (ue M p) o false J).put o.dst (.sV undef))
def aHp:run M (.XB p (o::rest) j tr::k) J=asB M p o rest j tr k J (qG (ue M p) o J):=by
 have hr:∀j tr J,run M (.XB p rest j tr::k) J=match Ms M (ue M p) rest j tr J with|some (e,J')=>y9 M k e J'|none=>none:=by
  intro j tr J;show y9 M (.XB p rest j tr::k) .normal J=_
  grind [qF,Au]
 have hl:run M (.XB p (o::rest) j tr::k) J=match Ms M (ue M p) (o::rest) j tr J with|some (e,J')=>y9 M k e J'|none=>none:=by
  show y9 M (.XB p (o::rest) j tr::k) .normal J=_
  grind [qF,Au]
 rw[hl];simp only[Ms];cases hw:qG (ue M p) o J with
 |none=>rfl
 |some b=>
  simp only[asB];cases b with
  |false=>simp only[jF,hr]
  |true=>
   simp only[jE];cases hc:nT (wq (ue M p) o true J) o.op with
   |some q=>
    obtain⟨f,args⟩:=q;simp only[alD];cases hic:M.uz f with
    |true=>
     grind [So,Av,adl,nX,agW,Zt,C1]
    |false=>
    grind [Av,adl,nX,alz]
   |none=>
    grind [alD,Av,adl,nX]
def az2:asB M p o rest j tr k J (some true)=alD M p o rest j tr k (wq (ue M p) o true J) (nT (wq (ue M p) o true J) o.op):=rfl
def axD:asB M p o rest j tr k J (some false)=run M (.XB p rest (j+1) tr::k) ((wq (ue M p) o false J).put o.dst (.sV undef)):=rfl
def aCT:asB M p o rest j tr k J (some b)=bif b then alD M p o rest j tr k (wq (ue M p) o true J) (nT (wq (ue M p) o true J) o.op)else run M (.XB p rest (j+1) tr::k) ((wq (ue M p) o false J).put o.dst (.sV undef)):=rfl
def az3:alD M p o rest j tr k J (some (f,args))=bif M.uz f then So M p o.dst rest j tr k J (M.co f args J.heap)else bif M.uC f then Av M p o.dst rest j tr k J (M.ce f args J.heap)else alz M p o.dst rest j tr k J (M.cd f args):=rfl
def aCU{e:vF}:So M p dst rest j tr k J (some (.ret e))=Av M p dst rest j tr k J (some e):=rfl
def aCV:So M p dst rest j tr k J (some (.pan x H'))=bif Zt M p j then axA M x {J with j9:=adi (ue M p) J.j9,heap:=H'} k else nX (VM tr=true) (nX (agW M p j rest (j+1) (J.put dst (.sV undef))) (axA M x {J with j9:=adi (ue M p) J.j9,heap:=H'} k)):=by
 grind [So,nX]
def az4:So M p dst rest j tr k J none=none:=rfl
def az5{o:Option W}{f:W->Option CO}:So M p dst rest j tr k J (o.bind f)=o.bind fun x=>So M p dst rest j tr k J (f x):=by
 cases o<;>rfl
def aFB {c:Nat}:agW M p c [] j J=True:=rfl
def OD(M:kK R)(p:List Nat)(c j:Nat):Bool:=p7 (ue M p) c j
def aCW {c:Nat}(h:OD M p c j=true):agW M p c (o::rest) j J=agW M p c rest (j+1) (J.put o.dst (.sV undef)):=by
 unfold OD at h;show aba M.P (ue M p) c (o::rest) j J=aba M.P (ue M p) c rest (j+1) (J.put o.dst (.sV undef));simp only[aba,h]
def az6:Av M p dst rest j tr k J none=none:=rfl
def az7{up:List (Nat×j5)}:
 Av M p dst rest j tr k J (some {val:=x,rd,up,nw,pre:=pr})=nX pr (nX (adl M p tr j {val:=x,rd,up,nw,pre:=pr}) (run M (.XB p rest (j+1) (PT tr j J.heap.length {val:=x,rd,up,nw,pre:=pr})::k) {J.put dst x with heap:=ni J.heap up++nw})):=by
 rw[<-ajD];rfl
def az8{o:Option W}{f:W->Option vF}:Av M p dst rest j tr k J (o.bind f)=o.bind fun x=>Av M p dst rest j tr k J (f x):=by
 cases o<;>rfl
def aCX[Decidable pr]{a b:Option vF}:Av M p dst rest j tr k J (if pr then a else b)=bif decide pr then Av M p dst rest j tr k J a else Av M p dst rest j tr k J b:=by
 by_cases h:pr<;>simp [h]
def az9:alz M p dst rest j tr k J (some r)=run M (.XB p rest (j+1) tr::k) (J.put dst r):=rfl
def aAa:alz M p dst rest j tr k J none=none:=rfl
def aAb{o:Option W}{f:W->Option AV}:alz M p dst rest j tr k J (o.bind f)=o.bind fun x=>alz M p dst rest j tr k J (f x):=by
 cases o<;>rfl
def adm(G:Fw M){r:R}(h:run M [.at []] J=some r)(hQ:∀J',M.out J'=some r->Q .normal J'/\Q .ret J')(hP:∀x J',M.rk x J'=some r->Q (.panic x) J'):awp M.P M.body Q J:=by
 have h':y9 M [.at []] .normal J=some r:=h;rw[qF (by simp)]at h';simp only[Au,sub]at h';cases hx:exec M M.body [] J with
 |none=>simp only[hx]at h';cases h'
 |some q=>
  obtain⟨e,J'⟩:=q;simp only[hx]at h';refine As G _ [] Q J e J' hx ?_;cases e with
  |normal=>exact(hQ J' h').1
  |ret=>exact(hQ J' h').2
  |panic x=>exact hP x J' h'
  |_=>simp only[y9]at h';cases h'
def aFC(G:Fw M){r:R}(h:run M [.at []] J=some r)(hQ:∀J',M.out J'=some r->Q .normal J'/\Q .ret J')(hP:∀x J',M.rk x J'=none):awp M.P M.body Q J:=
 adm G h hQ fun x J' hx=>by rw[hP x J']at hx;cases hx
def asC:Op->Bool
 |.call {callee:=.value _,..}=>false
 |.panic _=>false
 |_=>true
def asD:aRI->Bool
 |.skip=>true
 |.region _ kE _=>kE.toList.all fun o=>asC o.op
 |.seq x y=>asD x&&asD y
 |_=>false
theorem agX{o:Op}(h:asC o=true):nT J o=none:=by
 unfold nT;split
 ·cases h
 ·rfl
theorem aAc{o:Op}(h:asC o=true):aa4 J o=none:=by
 unfold aa4;split
 ·cases h
 ·rfl
def adn{M:kK R}{kE:Array aRH}:∀(rest:List aRH)(J:jS)(e:oo)(J':jS),rest.all (fun o=>asC o.op)=true->vW M kE rest J=some (e,J')->e=.normal
 |[],J,e,J',_,h=>by grind [vW]
 |o::rest,J,e,J',hc,h=>by
  rw[eF,dY]at hc;have ih:=fun J=>adn (M:=M) (kE:=kE) rest J e J' hc.2
  simp only[vW]at h
  grind [agX,aAc,mX]
def asE{M:kK R}{kE:Array aRH}:∀(rest:List aRH)(j:Nat)(tr:List Tr)(J:jS)(e:oo)(J':jS),rest.all (fun o=>asC o.op)=true->Ms M kE rest j tr J=some (e,J')->e=.normal
 |[],_,_,J,e,J',_,h=>by grind [Ms]
 |o::rest,j,tr,J,e,J',hc,h=>by
  rw[eF,dY]at hc;have ih:=fun tr J=>asE (M:=M) (kE:=kE) rest (j+1) tr J e J' hc.2
  grind [Ms,agX,mX]
def ao1{M:kK R}: ∀(c:aRI)(p:List Nat)(J:jS)(e:oo)(J':jS),asD c=true->exec M c p J=some (e,J')->e= .normal
 |.skip,_,_,e,_,_,h=>by grind [exec]
 | .region _ kE false,_,_,e,_,hp,h=>by
   simp only[exec]at h;exact adn _ _ _ _ hp h
 | .region _ kE true,_,_,e,_,hp,h=>by
   simp only[exec]at h;rw[mX]at h;exact asE _ _ _ _ _ _ hp h.2
 | .seq x y,p,J,e,J',hp,h=>by
   simp only[asD,dY]at hp;simp only[exec]at h;cases hx:exec M x (0::p) J with
   |none=>simp only[hx]at h;cases h
   |some r=>
    obtain⟨e1,J1⟩:=r;have:=ao1 x _ _ _ _ hp.1 hx;subst this;simp only[hx]at h;cases hc:M.cut (1::p) J1 with
    |none=>grind
    |some J2=>
     simp only[hc,ep]at h;exact ao1 y _ _ _ _ hp.2 h
 |.cond _ _ _,_,_,_,_,hp,_=>by cases hp
 |.block _ _,_,_,_,_,hp,_=>by cases hp
 |.loop _,_,_,_,_,hp,_=>by cases hp
 |.exit _,_,_,_,_,hp,_=>by cases hp
 |.scope _,_,_,_,_,hp,_=>by cases hp
 |.label _,_,_,_,_,hp,_=>by cases hp
 |.ret,_,_,_,_,hp,_=>by cases hp
 |.goto _,_,_,_,_,hp,_=>by cases hp
 |.rangeFunc _ _ _ _,_,_,_,_,hp,_=>by cases hp
 |.refuse _,_,_,_,_,hp,_=>by cases hp
def am2 {j9:List AV}{r:R}(G:Fw M)(ON:M.body= .seq lk.assign lk.body)(hp:asD lk.assign=true)(hn:yx lk.assign=true/\yx lk.body=true)
 (hH:H[0]? =some (.loop lk j9 .ready 0)) (GH:uc H.length args) (I7:∀x∈H,sk H.length x) (asF:∀e J,M.l1 e J=some r->aEu V e J)
 (h:run M [.at [0],.rb,.at [1],.rd] {j9:=Uh j9 lk.ps.toList args,heap:=H,low:=H.length}=some r):FnT M.P (VG M.P) args H V:=by
 refine axy hH GH I7 hn ?_;have h0:sub [0] M.body=lk.assign:=by rw[ON];rfl
 have h1:sub [1] M.body=lk.body:=by rw[ON];rfl
 have h':y9 M [.at [0],.rb,.at [1],.rd] .normal {j9:=Uh j9 lk.ps.toList args,heap:=H,low:=H.length}=some r:=h;rw[qF (by simp)]at h';simp only[Au,h0]at h';cases hx:exec M lk.assign [0] {j9:=Uh j9 lk.ps.toList args,heap:=H,low:=H.length} with
 |none=>simp only[hx]at h';cases h'
 |some q=>
  obtain⟨e,J'⟩:=q;have:=ao1 _ _ _ _ _ hp hx;subst this;simp only[hx]at h';refine As G _ [0] _ _ .normal J' hx ?_;rw[qF (by simp)]at h';simp only[Au]at h';cases hb:aoZ J' with
  |none=>grind
  |some J2=>
   simp only[hb,eK]at h';unfold aoZ aCo at hb;split at hb
   ·rename_i k s hk;simp only[dW]at hb;subst hb;refine⟨k,s,hk,?_⟩;rw[qF (by simp)]at h';simp only[Au,h1]at h';cases aQK:exec M lk.body [1] {J' with heap:=J'.heap.set 0 (.loop k s .busy 0)} with
    |none=>simp only[aQK]at h';cases h'
    |some q=>
     obtain⟨e2,J3⟩:=q;simp only[aQK]at h';refine As G _ [1] _ _ e2 J3 aQK ?_;exact asF e2 J3 (by cases e2<;>exact h')
   ·cases hb
def am3{fn:Func}{V:AV->Prop}{r:R}(G:Fw M)(hf:M.P.funcs[f]? =some fn)(hb:fn.body=some M.body)(sv:(fn.name != "runtime.NumGoroutine")=true)(GH:uc 0 args)
 (hn:fn.ntmps=n) (KO:fn.results=rs.toArray) (asF:∀J,M.out J=some r->J.df=[]/\aFr V J.heap (Uf M.P J rs))
 (h:run M [.at []] {j9:=args++eb (n-args.length) .any,heap:=[]}=some r) (hP:∀x J',M.rk x J'=none:=by intros;rfl):I5 M.P f args V:=by
 refine azH hf hb sv GH ?_;rw[KO,hn];refine aFC G h (fun J' hs=>?_) hP;have:=asF J' hs;exact⟨this,this⟩
end
section lists
variable {γ:Type}
def qQ(f:O->Option W):List O->Option (List W)
 |[]=>some []
 |x::xs=>(f x).bind fun y=>(qQ f xs).bind fun ys=>some (y::ys)
def aHq(f:O->Option W):qQ f []=some []:=rfl
def aFD(f:O->Option W)(x:O)(xs:List O):qQ f (x::xs)=(f x).bind fun y=>(qQ f xs).bind fun ys=>some (y::ys):=rfl
def ap3(f:O->Option W):∀a b:List O,qQ f (a++b)=(qQ f a).bind fun x=>(qQ f b).bind fun y=>some (x++y)
 |[],b=>by simp_all [qQ]
 |x::a,b=>by
  simp only[List.cons_append,qQ,ap3 f a b];cases f x<;>simp;cases qQ f a<;>simp;cases qQ f b<;>simp
def asG{f:O->Option W}{g:W->O}(h:∀x,f (g x)=some x):∀xs:List W,qQ f (xs.map g)=some xs
 |[]=>rfl
 |x::xs=>by simp [qQ,h x,asG h xs]
def mp(f:W->O)(xs:List W):List O:=xs.map f
theorem p8(f:W->O)(xs:List W):mp f xs=xs.map f:=rfl
attribute [irreducible] mp
theorem PU(f:W->O)(xs:List W):(mp f xs).length=xs.length:=by rw[p8,eL]
def aJw(f:W->O)(xs:List W)(n:Nat):(mp f xs).take n=mp f (xs.take n):=by rw[p8,p8,List.map_take]
def aJx(f:W->O)(xs:List W)(n:Nat):(mp f xs).drop n=mp f (xs.drop n):=by rw[p8,p8,List.map_drop]
def aCY(f:W->O)(xs:List W):(mp f xs).isEmpty=xs.isEmpty:=by rw[p8];cases xs<;>rfl
def yz{f:O->Option W}{g:W->O}(h:∀x,f (g x)=some x)(xs:List W):qQ f (mp g xs)=some xs:=by rw[p8];exact asG h xs
def aFE{f:W->O}{g:O->Option γ}{o:Option W}:(eX f o).bind g=o.bind fun x=>g (f x):=by cases o<;>rfl
def aCZ{f:W->Option O}{g:O->Option γ}{o:Option W}:(o.bind f).bind g=o.bind fun x=>(f x).bind g:=by cases o<;>rfl
def aFF{f:W->Option O}{x y:Option W}:(bif b then x else y).bind f=bif b then x.bind f else y.bind f:=by cases b<;>rfl
def aC0{f:W->Option O}:(none:Option W).bind f=none:=rfl
def nO{f:W->Option O}{x:W}:(some x).bind f=f x:=rfl
def Mg(xs:List W)(n:Int):Option W:=if 0<=n then xs[n.toNat]? else none
def aJy{f:W->O}{xs:List W}{n:Int}:Mg (mp f xs) n=eX f (Mg xs n):=by
 rw[p8];unfold Mg;split<;>simp
def aFG{x:W}{xs:List W}:Mg (x::xs) 0=some x:=rfl
def aHr{x y:W}{xs:List W}:Mg (x::y::xs) 1=some y:=rfl
def aHs{x y z:W}{xs:List W}:Mg (x::y::z::xs) 2=some z:=rfl
end lists
def vH:List AV->List AV->Prop
 |[],ys=>ys=[]
 |x::xs,ys=>∃y zs,ys=y::zs/\OB x y/\vH xs zs
theorem vH.nil:vH [] []:=rfl
theorem vH.cons{x y:AV}{xs ys:List AV}(h:OB x y)(hs:vH xs ys):vH (x::xs) (y::ys):=⟨y,ys,rfl,h,hs⟩
def vH.aL6:∀{xs ys:List AV},vH xs ys->qn xs ys
 |[],_,rfl=>qn.nil
 |_::_,_,⟨_,_,rfl,h,hs⟩=>qn.cons h (vH.aL6 hs)
def vH.aFH:∀{xs ys:List AV},vH xs ys->aoP xs ys
 |[],_,rfl=>aoP.nil
 |_::_,_,⟨_,_,rfl,h,hs⟩=>aoP.cons h (vH.aFH hs)
theorem vH.length:∀{xs ys:List AV},vH xs ys->xs.length=ys.length
 |[],_,rfl=>rfl
 |_::_,_,⟨_,_,rfl,_,hs⟩=>by simp [vH.length hs]
theorem vH.append:∀{xs ys us vs:List AV},vH xs ys->vH us vs->vH (xs++us) (ys++vs)
 |[],_,_,_,rfl,h=>h
 |_::_,_,_,_,⟨y,zs,rfl,h,hs⟩,h2=>⟨y,zs++_,rfl,h,vH.append hs h2⟩
theorem lO.nil:lO H n [] []:=rfl
theorem lO.cons{H:List j5}{n:Nat}{x y:AV}{xs ys:List AV}(h:Co1 H n x y)(hs:lO H n xs ys):lO H n (x::xs) (y::ys):=⟨y,ys,rfl,h,hs⟩
theorem lO.append:∀{xs ys us vs:List AV},lO H n xs ys->lO H n us vs->lO H n (xs++us) (ys++vs)
 |[],_,_,_,rfl,h=>h
 |_::_,_,_,_,⟨y,zs,rfl,h,hs⟩,h2=>⟨y,zs++_,rfl,h,lO.append hs h2⟩
def Co1.nG {y:AV}(h:Co1 [] n x y):OB x y:=by
 rcases h with h|⟨l,m,sz,rows,_,hl,_⟩
 ·exact h.1
 ·simp at hl
def lO.nG:∀{xs ys:List AV},lO [] n xs ys->vH xs ys
 |[],_,rfl=>rfl
 |_::_,_,⟨y,zs,rfl,h,hs⟩=>⟨y,zs,rfl,h.nG,lO.nG hs⟩
def Co.nG {y:AV}(h:Co [] n x y):OB x y:=by
 rcases h with h|⟨cs,ds,rfl,rfl,h⟩
 ·exact h.nG
 ·exact OB.agg h.nG.aL6
def lO.aHt:∀{xs ys:List AV},lO H n xs ys->Aq H n xs ys
 |[],_,rfl=>rfl
 |_::_,_,⟨y,zs,rfl,h,hs⟩=>⟨y,zs,rfl,.inl h,lO.aHt hs⟩
structure Row(W:Type) where
 enc:W->List AV
 mH:List AV->Option W
 sz:Nat
 ok:∀r x,mH r=some x->vH r (enc x)
 nb:∀n x,uc n (enc x)
structure Ty(W:Type) where
 enc:W->AV
 mH:List j5->AV->Option W
 ok:∀H n v x,mH H v=some x->Co H n v (enc x)
 nb:∀n x,(enc x).nb n
section rows

def Af(sz k:Nat)(rows:List (List AV)):Bool:=sz==k||rows.isEmpty
def dL(r:Row W)(H:List j5):AV->Option (List W)
 |.kF _ sz rows=>bif Af sz r.sz rows then qQ r.mH rows else none
 | .lR l n=>match H[l]? with
   |some (.lR true sz rows)=>bif (rows.length==n)&&Af sz r.sz rows then qQ r.mH rows else none
   |_=>none
 |_=>none
def PV{r:Row W}:∀{rows:List (List AV)}{xs:List W},qQ r.mH rows=some xs->Sn rows (mp r.enc xs)/\Kv rows (mp r.enc xs)
 |[],xs,h=>by
  simp only[qQ,dW]at h;subst h;rw[p8];exact⟨Sn.nil,rfl⟩
 |c::rows,xs,h=>by
  simp only[qQ,dV,dW]at h;obtain⟨y,hy,ys,hys,rfl⟩:=h;obtain⟨h1,h2⟩:=PV hys;have h3:=r.ok _ _ hy;rw[p8]at h1 h2 ⊢;exact⟨Sn.cons h3.aFH h1,_,_,rfl,⟨h3.length,h3.aL6⟩,h2⟩
theorem Aw{r:Row W}{n:Nat}:∀xs:List W,Jv n (mp r.enc xs)
 |[]=>by rw[p8];trivial
 |x::xs=>by have:=Aw (r:=r) (n:=n) xs;rw[p8]at this ⊢;exact⟨r.nb n x,this⟩
def ado{t:Bool}{sz:Nat}(h:Af sz k rows=true)(hs:Sn rows xJ):OB (.kF t sz rows) (.kF false k xJ):=by
 unfold Af at h;simp only[Bool.or_eq_true,jL,List.isEmpty_iff]at h;rcases h with rfl|rfl
 ·exact OB.kF hs
 ·have:xJ=[]:=ey hs.1.symm;subst this;exact OB.empty _ _ _
theorem wh{r:Row W}{xs:List W}(h:dL r H v=some xs):Co1 H n v (.kF false r.sz (mp r.enc xs)):=by
 unfold dL at h;split at h
 ·rename_i t sz rows;cases hs:Af sz r.sz rows with
  |false=>simp [hs]at h
  |true=>
   simp only[hs,jE]at h;exact .inl ⟨ado hs (PV h).1,Aw xs⟩
 ·rename_i l m;split at h
  ·rename_i sz rows hl;cases hs:Af sz r.sz rows with
   |false=>simp [hs]at h
   |true=>
    cases hm:(rows.length==m)with
    |false=>simp [hm]at h
    |true=>
     simp only[hs,hm,Bool.and_self,jE]at h;exact .inr ⟨l,m,sz,rows,rfl,hl,by simpa using hm,ado hs (PV h).1,Aw xs⟩
  ·cases h
 ·cases h
def lA(r:Row W):Ty (List W) where
 enc xs:=.kF false r.sz (mp r.enc xs)
 mH:=dL r
 ok _ _ _ _ h:=.inl (wh h)
 nb _ xs:=Aw xs
def aJz{r:Row W}{xs:List W}:(lA r).enc xs=.kF false r.sz (mp r.enc xs):=rfl
def aJA{r:Row W}:(lA r).mH H v=dL r H v:=rfl
end rows
def sb(s:List UInt8):ByteArray:=⟨s.toArray⟩
abbrev kj:=List UInt8
variable {xs:List (kj×Bool)}
def dI(k:aRN):AV->Option Int
 |.int k' n=>if k'=k then some n else none
 |_=>none
def dB:AV->Option Bool
 |.bool b=>some b
 |_=>none
def dS:AV->Option kj
 |.str b=>some b.data.toList
 |_=>none
theorem ut{k:aRN}{x:Int}(h:dI k v=some x):Co1 H n v (.int k x):=by
 unfold dI at h;split at h
 ·split at h
  ·cases h;rename_i e;subst e;exact Co1.sub (OB.refl _) trivial
  ·cases h
 ·cases h
theorem ap4{x:Bool}(h:dB v=some x):Co1 H n v (.bool x):=by
 unfold dB at h;split at h
 ·cases h;exact Co1.sub (OB.refl _) trivial
 ·cases h
theorem axE(b:ByteArray):sb b.data.toList=b:=by
 cases b;rfl
theorem QS{x:kj}(h:dS v=some x):Co1 H n v (.str (sb x)):=by
 unfold dS at h;split at h
 ·cases h;rw[axE];exact Co1.sub (OB.refl _) trivial
 ·cases h
def BD(s:kj):dS (.str (sb s))=some s:=rfl
def wz(k:aRN)(n:Int):dI k (.int k n)=some n:=by simp [dI]
def tw(b:Bool):dB (.bool b)=some b:=rfl
def aHu:dS (.str ByteArray.empty)=some []:=rfl
def aFI:dS (.str ⟨#[]⟩)=some []:=rfl
def lr(k:aRN):Ty Int:=⟨.int k,fun _=>dI k,fun _ _ _ _ h=>.inl (ut h),fun _ _=>trivial⟩
def mw:Ty Bool:=⟨.bool,fun _=>dB,fun _ _ _ _ h=>.inl (ap4 h),fun _ _=>trivial⟩
def mo:Ty kj:=⟨fun s=>.str (sb s),fun _=>dS,fun _ _ _ _ h=>.inl (QS h),fun _ _=>trivial⟩
def aJB{k:aRN}{x:Int}:(lr k).enc x=.int k x:=rfl
def aJC{k:aRN}:(lr k).mH H v=dI k v:=rfl
def aJD{x:Bool}:mw.enc x=.bool x:=rfl
def aJE:mw.mH H v=dB v:=rfl
def aJF{x:kj}:mo.enc x=.str (sb x):=rfl
def aJG:mo.mH H v=dS v:=rfl
def dF(f:aRJ):AV->Option Unit
 |.func (.func g) [] []=>if g=f then some ()else none
 |_=>none
def aL7(f:aRJ):dF f (.func (.func f) [] [])=some ():=by simp [dF]
def tyF(f:aRJ):Ty Unit where
 enc _:=.func (.func f) [] []
 mH _:=dF f
 ok H n v x h:=by
  unfold dF at h;split at h
  ·split at h
   ·rename_i e;subst e;exact Co.same ⟨trivial,trivial⟩
   ·cases h
  ·cases h
 nb _ _:=⟨trivial,trivial⟩
def aJH{x:Unit}:(tyF f).enc x=.func (.func f) [] []:=rfl
def aJI:(tyF f).mH H v=dF f v:=rfl
def Ui(n:Int):List AV:=[.int .i64 n]
def kX(s:kj):List AV:=[.str (sb s)]
def am4(b:Bool):List AV:=[.bool b]
def asH(n:Int):List AV:=[.int .u8 n]
def dI1(k:aRN):List AV->Option Int
 |[c]=>dI k c
 |_=>none
def dB1:List AV->Option Bool
 |[c]=>dB c
 |_=>none
def dS1:List AV->Option kj
 |[c]=>dS c
 |_=>none
def aHv:Row Int where
 enc:=Ui
 mH:=dI1 .i64
 sz:=1
 ok r x h:=by
  unfold dI1 at h;split at h
  ·exact vH.cons (ut (H:=[]) (n:=0) h).nG vH.nil
  ·cases h
 nb _ _:=⟨trivial,trivial⟩
def aL8:Row Int where
 enc:=asH
 mH:=dI1 .u8
 sz:=1
 ok r x h:=by
  unfold dI1 at h;split at h
  ·exact vH.cons (ut (H:=[]) (n:=0) h).nG vH.nil
  ·cases h
 nb _ _:=⟨trivial,trivial⟩
def aL9:Row Bool where
 enc:=am4
 mH:=dB1
 sz:=1
 ok r x h:=by
  unfold dB1 at h;split at h
  ·exact vH.cons (ap4 (H:=[]) (n:=0) h).nG vH.nil
  ·cases h
 nb _ _:=⟨trivial,trivial⟩
def kW:Row kj where
 enc:=kX
 mH:=dS1
 sz:=1
 ok r x h:=by
  unfold dS1 at h;split at h
  ·exact vH.cons (QS (H:=[]) (n:=0) h).nG vH.nil
  ·cases h
 nb _ _:=⟨trivial,trivial⟩
def aHw:aHv.enc=Ui/\aHv.mH=dI1 .i64/\aHv.sz=1:=⟨rfl,rfl,rfl⟩
def aMa:aL8.enc=asH/\aL8.mH=dI1 .u8/\aL8.sz=1:=⟨rfl,rfl,rfl⟩
def aMb:aL9.enc=am4/\aL9.mH=dB1/\aL9.sz=1:=⟨rfl,rfl,rfl⟩
def Zu:kW.enc=kX/\kW.mH=dS1/\kW.sz=1:=⟨rfl,rfl,rfl⟩
def ye:(∀xs:List Int,qQ (dI1 .i64) (mp Ui xs)=some xs)/\(∀xs:List Int,qQ (dI1 .u8) (mp asH xs)=some xs)/\(∀xs:List Bool,qQ dB1 (mp am4 xs)=some xs)/\∀xs:List kj,qQ dS1 (mp kX xs)=some xs:=
 ⟨yz fun x=>by simp [dI1,Ui,dI],yz fun x=>by simp [dI1,asH,dI],yz fun x=>rfl,yz fun x=>rfl⟩
structure QU(W:Type) where
 enc:W->List AV
 mH:List j5->List AV->Option W
 ok:∀H n cs x,mH H cs=some x->lO H n cs (enc x)
 nb:∀n x,uc n (enc x)
section kv

def dC(c:QU W)(H:List j5):AV->Option W
 |.agg cs=>c.mH H cs
 |_=>none
def kZ(c:QU W):Ty W where
 enc x:=.agg (c.enc x)
 mH:=dC c
 ok H n v x h:=by
  unfold dC at h;split at h
  ·exact .inr ⟨_,_,rfl,rfl,c.ok H n _ _ h⟩
  ·cases h
 nb n x:=c.nb n x
def aJJ{c:QU W}{x:W}:(kZ c).enc x=.agg (c.enc x):=rfl
def aJK{c:QU W}:(kZ c).mH H v=dC c H v:=rfl
end kv
def tyU:Ty Unit where
 enc _:=.I3 []
 mH _
  |.I3 []=>some ()
  |_=>none
 ok H n v x h:=by
  split at h
  ·exact Co.same trivial
  ·cases h
 nb _ _:=trivial
def aJL{x:Unit}:tyU.enc x=.I3 []:=rfl
def aJM:tyU.mH H (.I3 [])=some ():=rfl
section aMc
variable {γ δ ε:Type}
def d2(a:Ty W)(b:Ty O):AV->Option (W×O)
 |.I3 [x,y]=>(a.mH [] x).bind fun u=>(b.mH [] y).bind fun v=>some (u,v)
 |_=>none
def d3(a:Ty W)(b:Ty O)(c:Ty γ):AV->Option (W×O×γ)
 |.I3 [x,y,z]=>(a.mH [] x).bind fun u=>(b.mH [] y).bind fun v=>(c.mH [] z).bind fun w=>some (u,v,w)
 |_=>none
def d4(a:Ty W)(b:Ty O)(c:Ty γ)(d:Ty δ):AV->Option (W×O×γ×δ)
 |.I3 [x,y,z,p]=>(a.mH [] x).bind fun u=>(b.mH [] y).bind fun v=>(c.mH [] z).bind fun w=>(d.mH [] p).bind fun q=>some (u,v,w,q)
 |_=>none
def d5(a:Ty W)(b:Ty O)(c:Ty γ)(d:Ty δ)(e:Ty ε):AV->Option (W×O×γ×δ×ε)
 |.I3 [x,y,z,p,s]=>(a.mH [] x).bind fun u=>(b.mH [] y).bind fun v=>(c.mH [] z).bind fun w=>(d.mH [] p).bind fun q=>(e.mH [] s).bind fun t=>some (u,v,w,q,t)
 |_=>none
def Qr(a:Ty W)(b:Ty O):Ty (W×O) where
 enc x:=.I3 [a.enc x.1,b.enc x.2]
 mH _:=d2 a b
 ok H n v x h:=by
  unfold d2 at h;split at h
  ·simp only[dV,dW]at h;obtain⟨u,hu,w,hw,rfl⟩:=h;exact Co.sub (OB.I3 (qn.cons (a.ok [] 0 _ _ hu).nG (qn.cons (b.ok [] 0 _ _ hw).nG qn.nil))) ⟨a.nb n u,b.nb n w,trivial⟩
  ·cases h
 nb n x:=⟨a.nb n _,b.nb n _,trivial⟩
def ty3(a:Ty W)(b:Ty O)(c:Ty γ):Ty (W×O×γ) where
 enc x:=.I3 [a.enc x.1,b.enc x.2.1,c.enc x.2.2]
 mH _:=d3 a b c
 ok H n v x h:=by
  unfold d3 at h;split at h
  ·simp only[dV,dW]at h;obtain⟨u,hu,w,hw,p,hp,rfl⟩:=h;exact Co.sub (OB.I3 (qn.cons (a.ok [] 0 _ _ hu).nG (qn.cons (b.ok [] 0 _ _ hw).nG (qn.cons (c.ok [] 0 _ _ hp).nG qn.nil)))) ⟨a.nb n u,b.nb n w,c.nb n p,trivial⟩
  ·cases h
 nb n x:=⟨a.nb n _,b.nb n _,c.nb n _,trivial⟩
def ty4(a:Ty W)(b:Ty O)(c:Ty γ)(d:Ty δ):Ty (W×O×γ×δ) where
 enc x:=.I3 [a.enc x.1,b.enc x.2.1,c.enc x.2.2.1,d.enc x.2.2.2]
 mH _:=d4 a b c d
 ok H n v x h:=by
  unfold d4 at h;split at h
  ·simp only[dV,dW]at h;obtain⟨u,hu,w,hw,p,hp,q,hq,rfl⟩:=h;exact Co.sub (OB.I3 (qn.cons (a.ok [] 0 _ _ hu).nG (qn.cons (b.ok [] 0 _ _ hw).nG (qn.cons (c.ok [] 0 _ _ hp).nG (qn.cons (d.ok [] 0 _ _ hq).nG qn.nil))))) ⟨a.nb n u,b.nb n w,c.nb n p,d.nb n q,trivial⟩
  ·cases h
 nb n x:=⟨a.nb n _,b.nb n _,c.nb n _,d.nb n _,trivial⟩
def ty5(a:Ty W)(b:Ty O)(c:Ty γ)(d:Ty δ)(e:Ty ε):Ty (W×O×γ×δ×ε) where
 enc x:=.I3 [a.enc x.1,b.enc x.2.1,c.enc x.2.2.1,d.enc x.2.2.2.1,e.enc x.2.2.2.2]
 mH _:=d5 a b c d e
 ok H n v x h:=by
  unfold d5 at h;split at h
  ·simp only[dV,dW]at h;obtain⟨u,hu,w,hw,p,hp,q,hq,s,hs,rfl⟩:=h;exact Co.sub (OB.I3 (qn.cons (a.ok [] 0 _ _ hu).nG (qn.cons (b.ok [] 0 _ _ hw).nG (qn.cons (c.ok [] 0 _ _ hp).nG (qn.cons (d.ok [] 0 _ _ hq).nG (qn.cons (e.ok [] 0 _ _ hs).nG qn.nil)))))) ⟨a.nb n u,b.nb n w,c.nb n p,d.nb n q,e.nb n s,trivial⟩
  ·cases h
 nb n x:=⟨a.nb n _,b.nb n _,c.nb n _,d.nb n _,e.nb n _,trivial⟩
def aJN{a:Ty W}{b:Ty O}{x:W×O}:(Qr a b).enc x=.I3 [a.enc x.1,b.enc x.2]:=rfl
def aJO{a:Ty W}{b:Ty O}:(Qr a b).mH H v=d2 a b v:=rfl
def aJP{a:Ty W}{b:Ty O}{c:Ty γ}{x:W×O×γ}:(ty3 a b c).enc x=.I3 [a.enc x.1,b.enc x.2.1,c.enc x.2.2]:=rfl
def aJQ{a:Ty W}{b:Ty O}{c:Ty γ}:(ty3 a b c).mH H v=d3 a b c v:=rfl
def aJR{a:Ty W}{b:Ty O}{c:Ty γ}{d:Ty δ}{x:W×O×γ×δ}:(ty4 a b c d).enc x=.I3 [a.enc x.1,b.enc x.2.1,c.enc x.2.2.1,d.enc x.2.2.2]:=rfl
def aJS{a:Ty W}{b:Ty O}{c:Ty γ}{d:Ty δ}:(ty4 a b c d).mH H v=d4 a b c d v:=rfl
def aJT{a:Ty W}{b:Ty O}{c:Ty γ}{d:Ty δ}{e:Ty ε}{x:W×O×γ×δ×ε}:(ty5 a b c d e).enc x=.I3 [a.enc x.1,b.enc x.2.1,c.enc x.2.2.1,d.enc x.2.2.2.1,e.enc x.2.2.2.2]:=rfl
def aJU{a:Ty W}{b:Ty O}{c:Ty γ}{d:Ty δ}{e:Ty ε}:(ty5 a b c d e).mH H v=d5 a b c d e v:=rfl
end aMc
def l1{Y:Type}(P:aRL)(rs:List ResultVar)(t:Ty Y)(J:jS):Option Y:=
 bif J.df.isEmpty then(Uf P J rs).bind fun x=>nX ((frz 0 J.heap x).nb 0) (t.mH [] (frz 0 J.heap x))else none
def ajE{Y:Type}{t:Ty Y}{r:Y}(h:l1 P rs t J=some r):J.df=[]/\aFr (fun v=>v=t.enc r) J.heap (Uf P J rs):=by
 unfold l1 at h;cases hd:J.df with
 |cons p q=>rw[hd]at h;cases h
 |nil=>
 rw[hd]at h;simp only[eI,jE]at h;refine⟨rfl,?_⟩;cases hx:Uf P J rs with
 |none=>rw[hx]at h;cases h
 |some x=>
  rw[hx]at h;simp only[ep]at h;rw[mX]at h;exact⟨h.1,_,(t.ok [] 0 _ _ h.2).nG,rfl⟩
abbrev Ent:=List AV->List j5->Option (AV×List j5)
abbrev axF:=List AV->Option AV
section entries
variable {γ δ ε ζ Y:Type}
def aAd(t:Ty Y)(F:Option Y):Ent
 |[],H=>F.bind fun r=>some (t.enc r,H)
 |_,_=>none
def nq(a:Ty W)(t:Ty Y)(F:W->Option Y):Ent
 |[x],H=>(a.mH H x).bind fun x=>(F x).bind fun r=>some (t.enc r,H)
 |_,_=>none
def nP(a:Ty W)(b:Ty O)(t:Ty Y)(F:W->O->Option Y):Ent
 |[x,y],H=>(a.mH H x).bind fun x=>(b.mH H y).bind fun y=>(F x y).bind fun r=>some (t.enc r,H)
 |_,_=>none
def Zv(a:Ty W)(b:Ty O)(c:Ty γ)(t:Ty Y)(F:W->O->γ->Option Y):Ent
 |[x,y,z],H=>(a.mH H x).bind fun x=>(b.mH H y).bind fun y=>(c.mH H z).bind fun z=>(F x y z).bind fun r=>some (t.enc r,H)
 |_,_=>none
def ao2(a:Ty W)(b:Ty O)(c:Ty γ)(d:Ty δ)(t:Ty Y)(F:W->O->γ->δ->Option Y):Ent
 |[x,y,z,u],H=>(a.mH H x).bind fun x=>(b.mH H y).bind fun y=>(c.mH H z).bind fun z=>(d.mH H u).bind fun u=>(F x y z u).bind fun r=>some (t.enc r,H)
 |_,_=>none
def aHx(a:Ty W)(b:Ty O)(c:Ty γ)(d:Ty δ)(e:Ty ε)(t:Ty Y)(F:W->O->γ->δ->ε->Option Y):Ent
 |[x,y,z,u,v],H=>(a.mH H x).bind fun x=>(b.mH H y).bind fun y=>(c.mH H z).bind fun z=>(d.mH H u).bind fun u=>(e.mH H v).bind fun v=>(F x y z u v).bind fun r=>some (t.enc r,H)
 |_,_=>none
def aC1(a:Ty W)(b:Ty O)(c:Ty γ)(d:Ty δ)(e:Ty ε)(f:Ty ζ)(t:Ty Y)(F:W->O->γ->δ->ε->ζ->Option Y):Ent
 |[x,y,z,u,v,w],H=>(a.mH H x).bind fun x=>(b.mH H y).bind fun y=>(c.mH H z).bind fun z=>(d.mH H u).bind fun u=>(e.mH H v).bind fun v=>(f.mH H w).bind fun w=>(F x y z u v w).bind fun r=>some (t.enc r,H)
 |_,_=>none
def pR(e:Ent):axF:=fun args=>nX (uc 0 args) ((e args []).bind fun r=>some r.1)
def Uj(P:aRL)(f:aRJ)(e:Ent):Prop:=∀args J r H',e args J.heap=some (r,H')->BB P f args J (fun o F7=>o=.ret r/\F7=H')
def VP(P:aRL)(f:aRJ)(e:axF):Prop:=∀args r,e args=some r->I5 P f args (fun v=>v=r)
variable {a:Ty W} {b:Ty O} {c:Ty γ} {d:Ty δ} {e:Ty ε} {g:Ty ζ} {t:Ty Y}
def am5{F:Option Y}(h:∀r,F=some r->I5 P f [] (fun v=>v=t.enc r)):Uj P f (aAd t F):=by
 intro args J r H' he;unfold aAd at he;split at he
 ·simp only[dV,dW,dX]at he;obtain⟨r',hr,rfl,rfl⟩:=he;exact VN (n:=0) (h r' hr) Aq.nil
 ·cases he
def lB{F:W->Option Y}(h:∀x r,F x=some r->I5 P f [a.enc x] (fun v=>v=t.enc r)):Uj P f (nq a t F):=by
 intro args J r H' he;unfold nq at he;split at he
 ·simp only[dV,dW,dX]at he;obtain⟨x,hx,r',hr,rfl,rfl⟩:=he;exact VN (n:=0) (h x r' hr) (Aq.cons (a.ok _ 0 _ _ hx) Aq.nil)
 ·cases he
def lw{F:W->O->Option Y}(h:∀x y r,F x y=some r->I5 P f [a.enc x,b.enc y] (fun v=>v=t.enc r)):Uj P f (nP a b t F):=by
 intro args J r H' he;unfold nP at he;split at he
 ·simp only[dV,dW,dX]at he;obtain⟨x,hx,y,hy,r',hr,rfl,rfl⟩:=he;exact VN (n:=0) (h x y r' hr) (Aq.cons (a.ok _ 0 _ _ hx) (Aq.cons (b.ok _ 0 _ _ hy) Aq.nil))
 ·cases he
def Qs{F:W->O->γ->Option Y}(h:∀x y z r,F x y z=some r->I5 P f [a.enc x,b.enc y,c.enc z] (fun v=>v=t.enc r)):Uj P f (Zv a b c t F):=by
 intro args J r H' he;unfold Zv at he;split at he
 ·simp only[dV,dW,dX]at he;obtain⟨x,hx,y,hy,z,hz,r',hr,rfl,rfl⟩:=he;exact VN (n:=0) (h x y z r' hr) (Aq.cons (a.ok _ 0 _ _ hx) (Aq.cons (b.ok _ 0 _ _ hy) (Aq.cons (c.ok _ 0 _ _ hz) Aq.nil)))
 ·cases he
def arP{F:W->O->γ->δ->Option Y}(h:∀x y z u r,F x y z u=some r->I5 P f [a.enc x,b.enc y,c.enc z,d.enc u] (fun v=>v=t.enc r)):Uj P f (ao2 a b c d t F):=by
 intro args J r H' he;unfold ao2 at he;split at he
 ·simp only[dV,dW,dX]at he;obtain⟨x,hx,y,hy,z,hz,u,hu,r',hr,rfl,rfl⟩:=he;exact VN (n:=0) (h x y z u r' hr) (Aq.cons (a.ok _ 0 _ _ hx) (Aq.cons (b.ok _ 0 _ _ hy) (Aq.cons (c.ok _ 0 _ _ hz) (Aq.cons (d.ok _ 0 _ _ hu) Aq.nil))))
 ·cases he
def aEy{F:W->O->γ->δ->ε->Option Y}(h:∀x y z u v r,F x y z u v=some r->I5 P f [a.enc x,b.enc y,c.enc z,d.enc u,e.enc v] (fun w=>w=t.enc r)):Uj P f (aHx a b c d e t F):=by
 intro args J r H' he;unfold aHx at he;split at he
 ·simp only[dV,dW,dX]at he;obtain⟨x,hx,y,hy,z,hz,u,hu,v,hv,r',hr,rfl,rfl⟩:=he;exact VN (n:=0) (h x y z u v r' hr) (Aq.cons (a.ok _ 0 _ _ hx) (Aq.cons (b.ok _ 0 _ _ hy) (Aq.cons (c.ok _ 0 _ _ hz) (Aq.cons (d.ok _ 0 _ _ hu) (Aq.cons (e.ok _ 0 _ _ hv) Aq.nil)))))
 ·cases he
def aJV{F:W->O->γ->δ->ε->ζ->Option Y}(h:∀x y z u v w r,F x y z u v w=some r->I5 P f [a.enc x,b.enc y,c.enc z,d.enc u,e.enc v,g.enc w] (fun w=>w=t.enc r)):Uj P f (aC1 a b c d e g t F):=by
 intro args J r H' he;unfold aC1 at he;split at he
 ·simp only[dV,dW,dX]at he;obtain⟨x,hx,y,hy,z,hz,u,hu,v,hv,w,hw,r',hr,rfl,rfl⟩:=he;exact VN (n:=0) (h x y z u v w r' hr) (Aq.cons (a.ok _ 0 _ _ hx) (Aq.cons (b.ok _ 0 _ _ hy) (Aq.cons (c.ok _ 0 _ _ hz) (Aq.cons (d.ok _ 0 _ _ hu) (Aq.cons (e.ok _ 0 _ _ hv) (Aq.cons (g.ok _ 0 _ _ hw) Aq.nil))))))
 ·cases he
def nu{F:W->Option Y}(h:∀x r,F x=some r->I5 P f [a.enc x] (fun w=>w=t.enc r)):VP P f (pR (nq a t F)):=by
 intro args r he;unfold pR at he;rw[mX]at he;obtain⟨GH,he⟩:=he;unfold nq at he;split at he
 ·simp only[dV,dW,Prod.exists,dX]at he;obtain⟨_,_,⟨x,hx,r',hr,rfl,rfl⟩,rfl⟩:=he;exact amX (h x r' hr) (qn.cons (a.ok _ 0 _ _ hx).nG qn.nil) GH
 ·cases he
def qk{F:W->O->Option Y}(h:∀x y r,F x y=some r->I5 P f [a.enc x,b.enc y] (fun w=>w=t.enc r)):VP P f (pR (nP a b t F)):=by
 intro args r he;unfold pR at he;rw[mX]at he;obtain⟨GH,he⟩:=he;unfold nP at he;split at he
 ·simp only[dV,dW,Prod.exists,dX]at he;obtain⟨_,_,⟨x,hx,y,hy,r',hr,rfl,rfl⟩,rfl⟩:=he;exact amX (h x y r' hr) (qn.cons (a.ok _ 0 _ _ hx).nG (qn.cons (b.ok _ 0 _ _ hy).nG qn.nil)) GH
 ·cases he
def abc{F:W->O->γ->Option Y}(h:∀x y z r,F x y z=some r->I5 P f [a.enc x,b.enc y,c.enc z] (fun w=>w=t.enc r)):VP P f (pR (Zv a b c t F)):=by
 intro args r he;unfold pR at he;rw[mX]at he;obtain⟨GH,he⟩:=he;unfold Zv at he;split at he
 ·simp only[dV,dW,Prod.exists,dX]at he;obtain⟨_,_,⟨x,hx,y,hy,z,hz,r',hr,rfl,rfl⟩,rfl⟩:=he;exact amX (h x y z r' hr) (qn.cons (a.ok _ 0 _ _ hx).nG (qn.cons (b.ok _ 0 _ _ hy).nG (qn.cons (c.ok _ 0 _ _ hz).nG qn.nil))) GH
 ·cases he
def am6{F:W->O->γ->δ->Option Y}(h:∀x y z u r,F x y z u=some r->I5 P f [a.enc x,b.enc y,c.enc z,d.enc u] (fun w=>w=t.enc r)):VP P f (pR (ao2 a b c d t F)):=by
 intro args r he;unfold pR at he;rw[mX]at he;obtain⟨GH,he⟩:=he;unfold ao2 at he;split at he
 ·simp only[dV,dW,Prod.exists,dX]at he;obtain⟨_,_,⟨x,hx,y,hy,z,hz,u,hu,r',hr,rfl,rfl⟩,rfl⟩:=he;exact amX (h x y z u r' hr) (qn.cons (a.ok _ 0 _ _ hx).nG (qn.cons (b.ok _ 0 _ _ hy).nG (qn.cons (c.ok _ 0 _ _ hz).nG (qn.cons (d.ok _ 0 _ _ hu).nG qn.nil)))) GH
 ·cases he
def aHy{F:W->O->γ->δ->ε->ζ->Option Y}(h:∀x y z u v w r,F x y z u v w=some r->I5 P f [a.enc x,b.enc y,c.enc z,d.enc u,e.enc v,g.enc w] (fun w=>w=t.enc r)):VP P f (pR (aC1 a b c d e g t F)):=by
 intro args r he;unfold pR at he;rw[mX]at he;obtain⟨GH,he⟩:=he;unfold aC1 at he;split at he
 ·simp only[dV,dW,Prod.exists,dX]at he;obtain⟨_,_,⟨x,hx,y,hy,z,hz,u,hu,v,hv,w,hw,r',hr,rfl,rfl⟩,rfl⟩:=he;exact amX (h x y z u v w r' hr) (qn.cons (a.ok _ 0 _ _ hx).nG (qn.cons (b.ok _ 0 _ _ hy).nG (qn.cons (c.ok _ 0 _ _ hz).nG (qn.cons (d.ok _ 0 _ _ hu).nG (qn.cons (e.ok _ 0 _ _ hv).nG (qn.cons (g.ok _ 0 _ _ hw).nG qn.nil)))))) GH
 ·cases he
end entries
def l6:List (Nat×Ent)->aRJ->List AV->List j5->Option (AV×List j5)
 |[],_,_,_=>none
 |(g,e)::t,f,args,H=>if f=g then e args H else l6 t f args H
def Bp:List (Nat×axF)->aRJ->List AV->Option AV
 |[],_,_=>none
 |(g,e)::t,f,args=>if f=g then e args else Bp t f args
def jT:∀f args (J:jS) r H',l6 [] f args J.heap=some (r,H')->BB P f args J (fun o F7=>o=.ret r/\F7=H'):=by
 intro f args J r H' h;cases h
def jQ{e:Ent}{t:List (Nat×Ent)}(h1:Uj P g e)(h2:∀f args (J:jS) r H',l6 t f args J.heap=some (r,H')->BB P f args J (fun o F7=>o=.ret r/\F7=H')):
 ∀f args (J:jS) r H',l6 ((g,e)::t) f args J.heap=some (r,H')->BB P f args J (fun o F7=>o=.ret r/\F7=H'):=by
 intro f args J r H' h;simp only[l6]at h;split at h
 ·rename_i hg;subst hg;exact h1 _ _ _ _ h
 ·exact h2 _ _ _ _ _ h
def jU:∀f args r,Bp [] f args=some r->I5 P f args (fun v=>v=r):=by
 intro f args r h;cases h
def lC{e:axF}{t:List (Nat×axF)}(h1:VP P g e)(h2:∀f args r,Bp t f args=some r->I5 P f args (fun v=>v=r)):
 ∀f args r,Bp ((g,e)::t) f args=some r->I5 P f args (fun v=>v=r):=by
 intro f args r h;simp only[Bp]at h;split at h
 ·rename_i hg;subst hg;exact h1 _ _ h
 ·exact h2 _ _ _ h
structure NZ where
 f:List j5->Nat->AV->Option AV
 ok:∀H n v v',f H n v=some v'->Co H n v v'
variable {zs:List NZ}
structure ZO where
 f:List j5->Nat->j5->Option j5
 ok:∀H n x y,f H n x=some y->VJ H n x y
def zA:NZ:=⟨fun _ _ _=>some .any,fun _ _ _ _ h=>by cases h;exact Co.any⟩
def zK:NZ:=⟨fun _ n v=>nX (v.nb n) (some v),fun _ _ _ _ h=>by rw[mX]at h;obtain⟨h1,h2⟩:=h;cases h2;exact Co.same h1⟩
def zT(t:Ty W):NZ:=⟨fun H _ v=>(t.mH H v).bind fun x=>some (t.enc x),fun H n v v' h=>by
 simp only[dV,dW]at h;obtain⟨x,hx,rfl⟩:=h;exact t.ok H n v x hx⟩
def axG{sz:Nat}(hs:Sn rows xJ):OB (.kF true sz rows) (.kF true sz xJ):=by
 rintro E v ⟨base,cap,hv,h1,h2,h3,h4,h5⟩;refine⟨base,cap,by rw[<-hs.1];exact hv,by rw[<-hs.1];exact h1,fun _=>by rw[<-hs.1];exact h2 rfl,h3,fun a ha sv=>h4 a ha ?_,fun a ha=>hs.2 E sz _ _ (h5 a ha)⟩;rintro rfl;exact sv (ey hs.1.symm)
def dLt(r:Row W):AV->Option (List W)
 |.kF true sz rows=>bif sz==r.sz then qQ r.mH rows else none
 |_=>none
def zL(r:Row W):NZ:=⟨fun _ _ v=>(dLt r v).bind fun x=>some (.kF true r.sz (mp r.enc x)),fun H n v v' h=>by
 simp only[dV,dW]at h;obtain⟨x,hx,rfl⟩:=h;unfold dLt at hx;split at hx
 ·rename_i sz rows;cases hz:(sz==r.sz)with
  |false=>rw[hz]at hx;cases hx
  |true=>
   rw[hz,jE]at hx;obtain rfl:=jL.1 hz;exact .inl (.inl ⟨axG (PV hx).1,Aw x⟩)
 ·cases hx⟩
def aPI{r:Row W}:(zL r).f H n v=(dLt r v).bind fun x=>some (.kF true r.sz (mp r.enc x)):=rfl
def aPJ:zA.f H n v=some .any:=rfl
def aPK:zK.f H n v=nX (v.nb n) (some v):=rfl
def aPL{t:Ty W}:(zT t).f H n v=(t.mH H v).bind fun x=>some (t.enc x):=rfl
def aqD:List NZ->List j5->Nat->List AV->Option (List AV)
 |[],_,_,[]=>some []
 |z::zs,H,n,v::vs=>(z.f H n v).bind fun u=>(aqD zs H n vs).bind fun us=>some (u::us)
 |_,_,_,_=>none
def arQ:∀{zs:List NZ}{H:List j5}{n:Nat}{vs us:List AV},aqD zs H n vs=some us->Aq H n vs us
 |[],_,_,[],us,h=>by simp only[aqD,dW]at h;subst h;rfl
 |z::zs,H,n,v::vs,us,h=>by
  simp only[aqD,dV,dW]at h;obtain⟨u,hu,ws,hws,rfl⟩:=h;exact Aq.cons (z.ok _ _ _ _ hu) (arQ hws)
 |[],_,_,_::_,_,h=>by simp [aqD]at h
 |_::_,_,_,[],_,h=>by simp [aqD]at h
def oD:ZO:=⟨fun _ _ _=>some .vZ,fun _ _ _ _ h=>by cases h;exact .inl rfl⟩
def oK:ZO:=⟨fun _ n x=>nX (sk n x) (some x),fun _ _ _ _ h=>by rw[mX]at h;obtain⟨h1,h2⟩:=h;cases h2;exact .inr (.inl ⟨rfl,h1⟩)⟩
def oCf(zs:List NZ)(H:List j5)(n:Nat):j5->Option j5
 |.cells cs=>(aqD zs H n cs).bind fun ds=>some (.cells ds)
 |_=>none
def oC(zs:List NZ):ZO:=⟨oCf zs,fun H n x y h=>by
 unfold oCf at h;split at h
 ·simp only[dV,dW]at h;obtain⟨ds,hd,rfl⟩:=h;exact .inr (.inr (.inl ⟨_,_,rfl,rfl,arQ hd⟩))
 ·cases h⟩
def oTf(c:QU W)(H:List j5):j5->Option j5
 |.cells cs=>(c.mH H cs).bind fun x=>some (.cells (c.enc x))
 |_=>none
def oT(c:QU W):ZO:=⟨fun H _=>oTf c H,fun H n x y h=>by
 unfold oTf at h;split at h
 ·simp only[dV,dW]at h;obtain⟨z,hz,rfl⟩:=h;exact .inr (.inr (.inl ⟨_,_,rfl,rfl,(c.ok H n _ _ hz).aHt⟩))
 ·cases h⟩
def oAf(r:Row W):j5->Option j5
 |.lR ub sz rows=>(qQ r.mH rows).bind fun xs=>some (.lR ub sz (mp r.enc xs))
 |_=>none
def oA(r:Row W):ZO:=⟨fun _ _=>oAf r,fun H n x y h=>by
 unfold oAf at h;split at h
 ·simp only[dV,dW]at h;obtain⟨xs,hx,rfl⟩:=h;exact .inr (.inr (.inr (.inl ⟨_,_,_,_,rfl,rfl,(PV hx).2,Aw xs⟩)))
 ·cases h⟩
def aPM{x:j5}:oD.f H n x=some .vZ:=rfl
def aPN{x:j5}:oK.f H n x=nX (sk n x) (some x):=rfl
def aPO:(oC zs).f H n (.cells cs)=(aqD zs H n cs).bind fun ds=>some (.cells ds):=rfl
def aPP{c:QU W}:(oT c).f H n (.cells cs)=(c.mH H cs).bind fun x=>some (.cells (c.enc x)):=rfl
def aPQ{r:Row W}{ub:Bool}{sz:Nat}:(oA r).f H n (.lR ub sz rows)=(qQ r.mH rows).bind fun xs=>some (.lR ub sz (mp r.enc xs)):=rfl
def aC2:List ZO->List j5->Nat->List j5->Option (List j5)
 |[],_,_,_=>some []
 |z::zs,H,n,v::vs=>(z.f H n v).bind fun u=>(aC2 zs H n vs).bind fun us=>some (u::us)
 |_::_,_,_,[]=>none
def aEz:∀{zs:List ZO}{H:List j5}{n:Nat}{vs us:List j5},aC2 zs H n vs=some us->CoH H n vs us/\us.length=zs.length
 |[],_,_,vs,us,h=>by simp only[aC2,dW]at h;subst h;exact⟨CoH.nil,rfl⟩
 |z::zs,H,n,v::vs,us,h=>by
  simp only[aC2,dV,dW]at h;obtain⟨u,hu,ws,hws,rfl⟩:=h;obtain⟨h1,h2⟩:=aEz hws;exact⟨⟨z.ok _ _ _ _ hu,h1⟩,by simp [h2]⟩
 |_::_,_,_,[],_,h=>by simp [aC2]at h
def aAe:aCb n []=True:=eq_true agR
def aJW(zs:List NZ)(zo:List ZO)(J:jS):Option jS:=
 (aqD zs J.heap zo.length J.j9).bind fun ss=>(aC2 zo J.heap zo.length J.heap).bind fun hs=>bif decide (J.low<=zo.length)then nX (aCb zo.length J.df) (some ⟨ss,hs,J.low,J.df⟩)else none
def aJX{zo:List ZO}(h:aJW zs zo J=some J'):Lb J J':=by
 unfold aJW at h;simp only[dV]at h;obtain⟨ss,h1,hs,h2,h3⟩:=h;cases hl:decide (J.low<=zo.length)with
 |false=>simp [hl]at h3
 |true=>
  simp only[hl,jE]at h3;rw[mX]at h3;obtain⟨hdf,h3⟩:=h3;simp only[dW]at h3;subst h3;obtain⟨h4,h5⟩:=aEz h2;have hle:J.low<=hs.length:=by rw[h5];exact jI hl
  refine ase.imp ⟨⟨⟨rfl,hle⟩,rfl,by rw[h5];exact hdf⟩,?_,?_⟩
  ·show Aq J.heap hs.length J.j9 ss;rw[h5];exact arQ h1
  ·show CoH J.heap hs.length J.heap hs;rw[h5];exact h4
def GQ(i sz:Nat)(ub:Bool)(J:jS):jS:=
 match J.j9[i]? with
 |some (.kF true _ [])=>{j9:=J.j9.set i (.lR J.heap.length 0),heap:=J.heap++[.lR ub sz []],low:=J.low,df:=J.df}
 |_=>J
def asI {sz:Nat}{ub:Bool}:Lb J (GQ i sz ub J):=by
 unfold GQ;split
 ·rename_i s h;exact azw h
 ·exact Lb.refl J
section aHz
variable {a:Act}
def adp{b o:Nat}:(j5.cells cs).Bk h b o->(j5.cells ds).Bk h b o:=by
 intro hm;cases h with
 |pointer p=>cases p<;>exact hm
 |_=>exact hm
theorem QV{b:Nat}:(j5.cells cs).block h b->(j5.cells ds).block h b:=by
 intro hm;cases h with
 |pointer p=>cases p<;>exact hm
 |_=>exact hm
def ajF(hl:H[l]? =some (.cells cs)){x:j5}(hx:(H.set l (.cells ds))[k]? =some x):(k=l/\x=.cells ds)\/(k≠l/\H[k]? =some x):=by
 grind
def aC3(hl:J.heap[l]? =some (.cells cs)):C.env U (J.heap.set l (.cells ds)) w=C.env U J.heap w:=by
 have sJ:l<J.heap.length:=(ec.1 hl).1
 have hmu:∀b o,GJ U (J.heap.set l (.cells ds)) b o↔GJ U J.heap b o:=by
  intro b o;constructor
  ·rintro⟨k,x,hx,hm⟩;rcases ajF hl hx with⟨rfl,rfl⟩|⟨_,hx⟩
   ·exact⟨k,_,hl,adp hm⟩
   ·exact⟨k,x,hx,hm⟩
  ·rintro⟨k,x,hx,hm⟩;by_cases e:k=l
   ·subst e;rw[hl]at hx;cases hx;exact⟨k,_,ek sJ,adp hm⟩
   ·exact⟨k,x,by grind,hm⟩
 unfold qC.env;congr 1
 ·grind
 ·funext k;by_cases e:k=l
  ·subst e;rw[ek sJ,hl];rfl
  grind
 ·exact eM
def nF.aHA(S:nF C U J a w)(hl:J.heap[l]? =some (.cells cs))(h:∀b c t,U l=.pointer (some ⟨b,0,none⟩)->w.heap[b]? =some (.cells c t (0,0))->kP (C.env U J.heap w) cs c.toList->kP (C.env U J.heap w) ds c.toList):
 nF C U {J with heap:=J.heap.set l (.cells ds)} a w:=by
 have sJ:l<J.heap.length:=(ec.1 hl).1;have aMd:C.env U (J.heap.set l (.cells ds)) w=C.env U J.heap w:=aC3 hl
 have B1:tv C U (J.heap.set l (.cells ds)) w J.df a.defers:=S.defers.aza (fun xs vs _ r=>by rw[aMd];exact r) (fun _ _ _=>rfl) (fun k x b hx hb=>by
  grind [QV])
 refine {j9:=?_,defers:=B1,om:=?_,apart:=?_,uh:=?_,size:=S.size,old:=S.old,n8:=S.n8,Cn:=?_,wZ:=S.wZ,rest:=S.rest,low:=⟨S.low.1,by show J.low<=(J.heap.set l (.cells ds)).length;rw[eM];exact S.low.2⟩,mA:=?_}
 ·show kP (C.env U (J.heap.set l (.cells ds)) w) J.j9 a.tmps.toList;rw[aMd];exact S.j9
 ·intro k x hx;show oP (C.env U (J.heap.set l (.cells ds)) w) x (U k);rw[aMd];rcases ajF hl hx with⟨rfl,rfl⟩|⟨_,hx⟩
  ·obtain⟨b,c,t,h1,h2,h3,h4⟩:=S.om k _ hl;exact⟨b,c,t,h1,h2,h b c t h1 h2 h3,h4⟩
  ·exact S.om k x hx
 ·intro k k' x x' b hx BA hb sK;rcases ajF hl hx with⟨e1,rfl⟩|⟨_,h2⟩<;>rcases ajF hl BA with⟨e2,rfl⟩|⟨_,h3⟩
  ·rw[e1,e2]
  ·rw[e1]at hb ⊢;exact S.apart _ _ _ _ b hl h3 (QV hb) sK
  ·rw[e2]at sK ⊢;exact S.apart _ _ _ _ b h2 hl hb (QV sK)
  ·exact S.apart _ _ _ _ b h2 h3 hb sK
 ·intro k x b o hx hb;rcases ajF hl hx with⟨rfl,rfl⟩|⟨_,hx⟩
  ·exact S.uh _ _ b o hl (QV hb)
  ·exact S.uh _ _ b o hx hb
 ·intro k x b o hx hm hb;rcases ajF hl hx with⟨rfl,rfl⟩|⟨_,hx⟩
  ·exact S.Cn _ _ b o hl (adp hm) hb
  ·exact S.Cn _ _ b o hx hm hb
 ·intro k hk;have:=S.mA k hk;show(U k=_/\(mR (J.heap.set l (.cells ds))[k]? =_\/mR (J.heap.set l (.cells ds))[k]? =none))\/((∃q,_/\∀k',mR (J.heap.set l (.cells ds))[k]? =some k'->q<k')/\_)
  have e:mR (J.heap.set l (.cells ds))[k]? =mR J.heap[k]? :=by
   by_cases e:k=l
   ·subst e;rw[ek sJ,hl];rfl
   grind
  rw[e];exact this
theorem awn {s sz:Nat}(hl:J.heap[l]? =some (.cells cs))(hc:cs[off]? =some (.kF true s [])):
 Lb J {j9:=J.j9,heap:=J.heap.set l (.cells (cs.set off (.lR J.heap.length 0)))++[.lR true sz []],low:=J.low,df:=J.df}:=by
 intro C U a w S;have sJ:l<J.heap.length:=(ec.1 hl).1;obtain⟨b,c,t,hφ,hh,rl,h1⟩:=S.om l _ hl;obtain⟨v,hv,base,cap,rfl,_,Cp,_⟩:=rl.get hc;have Cp:cap=0:=Cp rfl;subst Cp
 have S':=S.adf (ub:=true) (sz:=sz) (rows:=[]) (w':=w) (h':=.slice base 0 0) (eo _) (fun _ _=>rfl) (fun _=>rfl) ⟨rfl,rfl⟩ (by
  intro b hb;cases base<;>simp [j5.block]at hb) (fun E' _ _=>⟨base,0,rfl,eo _,fun _=>rfl,by simp,fun b _ h0=>absurd rfl h0⟩)
 refine⟨(fun k=>if k=J.heap.length then .slice base 0 0 else U k),?_⟩;have hl':(J.heap++[j5.lR true sz []])[l]? =some (.cells cs):=by grind
 have S2:=S'.aHA (l:=l) (cs:=cs) (ds:=cs.set off (.lR J.heap.length 0)) hl' (by
  intro b2 c2 t2 h3 h4 r
  have e1:b2=b:=by
   grind
  subst e1;rw[show w.heap[b2]? =some (.cells c t (0,0))from hh]at h4;simp only[dW,Obj.cells.injEq]at h4;obtain⟨rfl,_⟩:=h4
  have aCd:=kP.set (i:=off) (c:=.lR J.heap.length 0) (v:=.slice base 0 0) r ⟨by simp [qC.env],⟨_,_,_,rfl⟩,fun k hk=>by
   grind [qC.env]⟩
  grind [List.set_getElem_self])
 grind
def aEA(l off sz:Nat)(J:jS):jS:=
 match J.heap[l]? with
 |some (.cells cs)=>match cs[off]? with
  |some (.kF true _ [])=>{j9:=J.j9,heap:=J.heap.set l (.cells (cs.set off (.lR J.heap.length 0)))++[.lR true sz []],low:=J.low,df:=J.df}
  |_=>J
 |_=>J
def aHB {sz:Nat}:Lb J (aEA l off sz J):=by
 grind [aEA,awn,Lb.refl]
end aHz
structure ua where
 gs:List (Nat×Nat×Bool)
 gc:List (Nat×Nat×Nat)
 zs:List NZ
 zo:List ZO
 sel:Option Nat
 aNR:Option (Nat×Nat)
def aHC:Option AV->Bool
 |some (.kF _ _ _)=>true
 |_=>false
def aMe:Option Nat->jS->Bool
 |none,_=>true
 |some i,J=>aHC J.j9[i]?
def aHD(k:Nat):Option AV->Bool
 |some (.map k')=>k'==k
 |_=>false
def aMf:Option (Nat×Nat)->jS->Bool
 |none,_=>true
 |some (i,k),J=>aHD k J.j9[i]?
def axH:List (Nat×Nat×Bool)->jS->jS
 |[],J=>J
 |(i,sz,b)::r,J=>axH r (GQ i sz b J)
def asJ:List (Nat×Nat×Nat)->jS->jS
 |[],J=>J
 |(l,o,sz)::r,J=>asJ r (aEA l o sz J)
def awo:∀{g:List (Nat×Nat×Bool)}{J:jS},Lb J (axH g J)
 |[],J=>Lb.refl J
 |(_,_,_)::_,_=>asI.trans awo
def ao3:∀{g:List (Nat×Nat×Nat)}{J:jS},Lb J (asJ g J)
 |[],J=>Lb.refl J
 |(_,_,_)::_,_=>aHB.trans ao3
def aMg(N:ua)(J:jS):Option jS:=aJW N.zs N.zo (asJ N.gc (axH N.gs J))
def aJY{N:ua}(h:aMg N J=some J'):Lb J J':=(awo.trans ao3).trans (aJX h)
def oz:List (List Nat×ua)->List Nat->jS->Option jS
 |[],_,J=>some J
 |(q,N)::t,p,J=>if p=q then(bif aMe N.sel J&&aMf N.aNR J then aMg N J else oz t p J)else oz t p J
def pd:∀(t:List (List Nat×ua))(p:List Nat)(J J':jS),oz t p J=some J'->Lb J J'
 |[],_,J,J',h=>by grind [oz,Lb.refl]
 |(q,N)::t,p,J,J',h=>by
  simp only[oz]at h;split at h
  ·cases hs:(aMe N.sel J&&aMf N.aNR J)with
   |true=>rw[hs]at h;exact aJY h
   |false=>rw[hs]at h;exact pd t p J J' h
  ·exact pd t p J J' h
def ixA(J:jS)(sz:Nat)(x i:AV):Option vF:=
 match x,i with
 |.kF _ Ud rows,.int _ n=>if Ud=sz then(Mg rows n).bind fun r=>some {val:=.pp r} else none
 | .lR l m,.int _ n=>match J.heap[l]? with
   |some (.lR true Ud rows)=>if Ud=sz/\rows.length=m then(Mg rows n).bind fun r=>some {val:=.pp r,rd:=[l]} else none
   |some (.lR false Ud rows)=>if Ud=sz/\rows.length=m then(Mg rows n).bind fun _=>some {val:=.own l n.toNat m 0 sz,rd:=[l]} else none
   |_=>none
 |_,_=>none
def aJZ(s:ByteArray)(n:Int):Option UInt8:=if 0<=n then s[n.toNat]? else none
def ixS(x i:AV):Option vF:=
 match x,i with
 |.str s,.int _ n=>(aJZ s n).bind fun b=>some {val:=.int .u8 b.toNat}
 |_,_=>none
def ldA(P:aRL)(J:jS)(t:TypeId)(v:AV):Option vF:=
 match mN P t,v with
 |some (g,n),.ptr l off=>match J.heap[l]? with
  |some (.cells cs)=>(kr g n (cs.drop off)).bind fun v=>ldV J.heap l v
  |_=>none
 |some (g,n),.pp cs=>(kr g n cs).bind fun v=>some {val:=v}
 |some (g,n),.own l i m o sz=>match J.heap[l]? with
  |some (.lR false Ud rows)=>if Ud=sz/\rows.length=m then rows[i]?.bind fun r=>(kr g n (r.drop o)).bind fun v=>some {val:=v,rd:=[l]} else none
  |_=>none
 |some (false,_),.sV v=>arZ v
 |_,_=>none
def stA(P:aRL)(J:jS)(t:TypeId)(v:AV)(ys:Option (List AV)):Option vF:=
 match mN P t,v,ys with
 |some (_,n),.ptr l off,some ys=>match J.heap[l]? with
  |some (.cells cs)=>if ys.length=n/\off+n<=cs.length then some {val:=.any,rd:=[l],up:=[(l,.cells (vq cs off ys))]} else none
  |_=>none
 |some (_,n),.own l i m o sz,some ys=>match J.heap[l]? with
  |some (.lR false Ud rows)=>if Ud=sz/\rows.length=m then rows[i]?.bind fun r=>if ys.length=n/\o+n<=sz then some {val:=.any,rd:=[l],up:=[(l,.lR false sz (rows.set i (vq r o ys)))]} else none else none
  |_=>none
 |_,_,_=>none
def aHE(n:Int)(f:Nat->Option vF):Nat->Nat->Option vF
 |0,_=>none
 |c+1,i=>bif n==(i:Int)then f i else aHE n f c (i+1)
theorem aEB{n:Int}{f:Nat->Option vF}:∀(c i:Nat),aHE n f c i=if (i:Int)<=n/\n<(i:Int)+c then f n.toNat else none
 |0,i=>by rw[if_neg (by omega)];rfl
 |c+1,i=>by
  rw[aHE,aEB c (i+1)]
  grind
def ixP(len sz:Nat)(x i:AV):Option vF:=
 match x,i with
 |.ptr l off,.int _ n=>if len<=8 then aHE n (fun i=>some {val:=.ptr l (off+i*sz)}) len 0 else if 0<=n/\n<len then some {val:=.ptr l (off+n.toNat*sz)} else none
 |.pp cs,.int _ n=>if 0<=n/\n<len then(VF sz n.toNat cs).bind fun ds=>some {val:=.pp ds} else none
 |.sV (.pointer (some ⟨b,o,none⟩)),.int _ n=>if 0<=n/\n<len then some {val:=.sV (.pointer (some ⟨b,o+n.toNat*sz,none⟩))} else none
 |_,_=>none
def ixZ(P:aRL)(t:TypeId)(x i:AV):Option vF:=
 match apT P t,x,i with
 |some len,.agg cs,.int _ n=>(amC cs).bind fun ms=>if 0<=n/\n<len then(Mg ms n).bind fun m=>some {val:=.int .i64 m} else none
 |_,_,_=>none
def opX (P:aRL) (J:jS):Op->Option vF
 | .indexAddr t x i=>match l8 P t with
   |some (_,sz,_)=>ixA J sz (J.ev x) (J.ev i)
   |none=>match auD P t with
    |some (len,sz)=>ixP len sz (J.ev x) (J.ev i)
    |none=>none
 |.index t x i=>if pg P t=true then ixS (J.ev x) (J.ev i)else ixZ P t (J.ev x) (J.ev i)
 | .binOp op t x y ty=>match op with
   |.eql=>lG P J (.binOp .eql t x y ty)
   |.neq=>lG P J (.binOp .neq t x y ty)
   |op=>(av0 op (J.ev x) (J.ev y)).bind fun v=>some {val:=v}
 |.load t x=>ldA P J t (J.ev x)
 |.store t x y=>stA P J t (J.ev x) (cellsOf (J.ev y))
 |o=>lG P J o
def Ag(H:List j5):∀cs:List AV,uc 0 cs->vwL H cs=some (cs,[])
 |[],_=>rfl
 |c::cs,h=>by
  have ih:=Ag H cs h.2;cases c with
  |lR l n=>exact absurd h.1 (eN _)
  |_=>simp only[vwL,ih]
theorem uT(P:aRL)(J:jS)(o:Op):lG P J o=opX P J o:=by
 cases o with
 |indexAddr t x i=>
  simp only[opX];cases ht:l8 P t with
  |none=>
   simp only[lG,ht]
   grind [ixP,aEB]
  |some q=>
   obtain⟨e,sz,b⟩:=q;simp only[lG,ht]
   grind [ixA,Mg]
 |index t x i=>
  simp only[opX,lG];cases ht:pg P t
  ·simp only[Bool.false_eq_true,if_false];unfold ixZ;cases hx:J.ev x<;>cases hi:J.ev i<;>simp only[]
   all_goals (first|done|(cases h1:apT P t<;>rfl)|skip)
   rename_i cs k n;cases h1:apT P t with
   |none=>rfl
   |some len=>
    cases h2:amC cs with
    |none=>
     simp only[h2,Option.bind_none]
    |some ms=>
     simp only[h2,ep,Mg];split
     ·rename_i hc;simp only[if_pos hc.1];cases ms[n.toNat]? <;>rfl
     ·rfl
  ·cases hx:J.ev x<;>cases hi:J.ev i<;>simp only[ixS,jM]
   grind [aJZ]
 |binOp op t x y ty=>
  cases op with
  |eql=>rfl
  |neq=>rfl
  |_=>
   simp only[opX,lG];generalize av0 _ (J.ev x) (J.ev y)=q;cases q<;>rfl
 |load t x=>
  simp only[opX,lG,ldA]
  grind
 |store t x y=>
  simp only[opX,lG,stA]
  grind
 |_=>rfl
section freeze
variable {a:Act}
def rp1(l:Nat)(cs:List AV):AV->AV
 |.ptr k off=>if k=l then .pp (cs.drop off)else .ptr k off
 |x=>x
def rpV(l:Nat)(cs:List AV):AV->AV
 |.ptr k off=>if k=l then .pp (cs.drop off)else .ptr k off
 |.func fn f c=>.func fn (f.map (rp1 l cs)) (c.map (rp1 l cs))
 |x=>x
def rpO(l:Nat)(cs:List AV):j5->j5
 |.cells ds=>.cells (ds.map (rpV l cs))
 |x=>x
def aAf(l:Nat)(J:jS):Option jS:=
 match J.heap[l]? with
 |some (.cells cs)=>nX (uc 0 cs/\J.low<=l) (some {j9:=J.j9.map (rpV l cs),heap:=(J.heap.map (rpO l cs)).set l .vZ,low:=J.low,df:=J.df})
 |_=>none
def aAg{x:j5}{b o:Nat}:(rpO l cs x).Bk h b o->x.Bk h b o:=by
 cases x with
 |cells ds=>exact adp
 |_=>exact id
theorem abd{x:j5}{b:Nat}:(rpO l cs x).block h b->x.block h b:=by
 cases x with
 |cells ds=>exact QV
 |_=>exact id
theorem aJ0{x:j5}:mR (some (rpO l cs x))=mR (some x):=by
 cases x<;>rfl
def aMh{y:j5}(h:((H.map (rpO l cs)).set l .vZ)[k]? =some y):(k=l/\y=.vZ)\/(k≠l/\∃x,H[k]? =some x/\y=rpO l cs x):=by
 grind
theorem aHF(h:aAf l J=some J'):Lb J J':=by
 unfold aAf at h;split at h
 case h_2=>cases h
 rename_i cs hl;rw[mX]at h;obtain⟨⟨GH,JB⟩,h⟩:=h;cases h;intro C U a w S;refine⟨U,?_⟩;have sJ:l<J.heap.length:=(ec.1 hl).1;obtain⟨b0,c0,t0,hφ,hh,rl,zr⟩:=S.om l _ hl
 let H':List j5:=(J.heap.map (rpO l cs)).set l .vZ
 have hlen:H'.length=J.heap.length:=by simp [H']
 have n9:∀(k:Nat)(y:j5),H'[k]? =some y->(k=l/\y=.vZ)\/(k≠l/\∃x,J.heap[k]? =some x/\y=rpO l cs x):=fun k y hy=>aMh hy
 have OC:∀b o,GJ U H' b o->GJ U J.heap b o:=by
  rintro b o ⟨k,y,hy,hm⟩;rcases n9 k y hy with⟨_,rfl⟩|⟨_,x,hx,rfl⟩
  ·simp [j5.Bk]at hm
  ·exact⟨k,x,hx,aAg hm⟩
 have azh:∀k:Nat,mR H'[k]? =mR J.heap[k]? :=by
  intro k;by_cases e:k=l
  ·subst e;simp only[H'];rw[ek (by simpa using sJ),hl];rfl
  grind [aJ0]
 have le:(C.env U J.heap w).Le J.heap.length (C.env U H' w):=
  qC.CU (by rw[hlen];exact eo _) (fun k _=>⟨rfl,azh k⟩) (fun b o u hm hc=>⟨fun h=>hm (h.imp (OC b o) id),hc⟩)
 have aNS:∀o,¬ (GJ U H' b0 o\/C.A b0 o):=by
  rintro o (⟨k,y,hy,hm⟩|hA)
  ·rcases n9 k y hy with⟨_,rfl⟩|⟨sv,x,hx,rfl⟩
   ·simp [j5.Bk]at hm
   ·exact sv (S.apart k l x _ b0 hx hl (abd (j5.ot hm)) (by rw[hφ];rfl))
  ·exact S.uh l _ b0 o hl (by rw[hφ];rfl) hA
 have rl':kP (C.env U H' w) cs c0.toList:=kP.mono le _ _ (sy (eC _) _ GH) rl
 have hpp:∀(off:Nat)(v:aRK),pm (C.env U J.heap w) (.ptr l off) v->pm (C.env U H' w) (.pp (cs.drop off)) v:=by
  rintro off v ⟨_,b,hb,rfl⟩
  have e:b0=b:=by
   have sK:U l=.pointer (some ⟨b,0,none⟩):=hb;rw[hφ]at sK;simpa using sK
  subst e;refine⟨b0,off,rfl,?_⟩;have hd:=rl'.drop off;have h1:∀u∈c0.toList.drop off,u.oneCell'=true:=fun u hu=>zr u (List.mem_of_mem_drop hu)
  have hl2:=hd.length;exact Ku (E:=C.env U H' w) (c:=c0) (t:=t0) (fr:=(0,0)) hh _ off (fun o _ _=>aNS o) (by grind) (by grind)
 have h1:∀(x:AV)(v:aRK),pm (C.env U J.heap w) x v->pm (C.env U H' w) (rp1 l cs x) v:=by
  intro x v r;cases x with
  |ptr k off=>
   simp only[rp1];split
   ·grind
   ·exact pm.mono le _ _ (pm.nb _ _ r) r
  |_=>exact pm.mono le _ _ (pm.nb _ _ r) r
 have hL1:∀(xs:List AV)(vs:List aRK),kP (C.env U J.heap w) xs vs->kP (C.env U H' w) (xs.map (rp1 l cs)) vs:=by
  intro xs;induction xs with
  |nil=>intro vs r;exact r
  |cons x xs ih=>rintro _ ⟨u,us,rfl,r1,r2⟩;exact⟨u,us,rfl,h1 x u r1,ih us r2⟩
 have hV:∀(x:AV)(v:aRK),pm (C.env U J.heap w) x v->pm (C.env U H' w) (rpV l cs x) v:=by
  intro x v r;cases x with
  |ptr k off=>
   simp only[rpV];split
   ·grind
   ·exact pm.mono le _ _ (pm.nb _ _ r) r
  |func fn f c=>
   obtain⟨f',c',hv,r1,r2⟩:=r;exact⟨f',c',hv,hL1 _ _ r1,hL1 _ _ r2⟩
  |_=>exact pm.mono le _ _ (pm.nb _ _ r) r
 have hLV:∀(xs:List AV)(vs:List aRK),kP (C.env U J.heap w) xs vs->kP (C.env U H' w) (xs.map (rpV l cs)) vs:=by
  intro xs;induction xs with
  |nil=>intro vs r;exact r
  |cons x xs ih=>rintro _ ⟨u,us,rfl,r1,r2⟩;exact⟨u,us,rfl,hV x u r1,ih us r2⟩
 have B1:tv C U H' w J.df a.defers:=S.defers.step le (fun _ _ _=>rfl) (fun k y b hy hb=>by
  grind [j5.block,abd])
 refine {j9:=hLV _ _ S.j9,defers:=B1,om:=?_,apart:=?_,uh:=?_,size:=S.size,old:=S.old,n8:=S.n8,Cn:=?_,wZ:=S.wZ,rest:=S.rest,low:=⟨S.low.1,by grind⟩,mA:=?_}
 ·intro k y hy;rcases n9 k y hy with⟨_,rfl⟩|⟨_,x,hx,rfl⟩
  ·exact trivial
  ·have r:=S.om k x hx;cases x with
   |cells ds=>
    obtain⟨b,c,t,h1,h2,h3,h4⟩:=r;exact⟨b,c,t,h1,h2,hLV _ _ h3,h4⟩
   |_=>exact oP.mono r le (fun _ _=>rfl)
 ·intro k k' y y' b hy hy' hb sK;rcases n9 k y hy with⟨_,rfl⟩|⟨_,x,hx,rfl⟩
  ·simp [j5.block]at hb
  ·rcases n9 k' y' hy' with⟨_,rfl⟩|⟨_,x',BA,rfl⟩
   ·simp [j5.block]at sK
   ·exact S.apart k k' x x' b hx BA (abd hb) (abd sK)
 ·intro k y b o hy hb;rcases n9 k y hy with⟨_,rfl⟩|⟨_,x,hx,rfl⟩
  ·simp [j5.block]at hb
  ·exact S.uh k x b o hx (abd hb)
 ·intro k y b o hy hm hb;rcases n9 k y hy with⟨_,rfl⟩|⟨_,x,hx,rfl⟩
  ·simp [j5.Bk]at hm
  ·exact S.Cn k x b o hx (aAg hm) hb
 ·intro k hk;have:=S.mA k hk
  grind
def aAh{sz:Nat}{b o:Nat}:(j5.lR true sz rows).Bk h b o->(j5.lR false sz rows).Bk h b o:=by
 intro hm;cases h with
 |slice base n cap=>
  cases base with
  |none=>exact hm
  |some a=>exact⟨hm.1,fun h=>by cases h⟩
 |_=>exact hm
def nF.ub{a:Act}{sz:Nat}(hl:J.heap[l]? =some (.lR false sz rows))(S:nF C U J a w):nF C U {J with heap:=J.heap.set l (.lR true sz rows)} a w:=by
 have sJ:l<J.heap.length:=(ec.1 hl).1
 let H':List j5:=J.heap.set l (.lR true sz rows)
 have hlen:H'.length=J.heap.length:=by simp [H']
 have n9:∀(k:Nat)(y:j5),H'[k]? =some y->(k=l/\y=.lR true sz rows)\/J.heap[k]? =some y:=by
  grind
 have OC:∀b o,GJ U H' b o->GJ U J.heap b o:=by
  rintro b o ⟨k,y,hy,hm⟩;rcases n9 k y hy with⟨rfl,rfl⟩|hx
  ·exact⟨k,_,hl,aAh hm⟩
  ·exact⟨k,y,hx,hm⟩
 have azh:∀k:Nat,mR H'[k]? =mR J.heap[k]? :=by
  intro k;by_cases e:k=l
  ·subst e;simp only[H'];rw[ek sJ,hl];rfl
  grind
 have le:(C.env U J.heap w).Le J.heap.length (C.env U H' w):=
  qC.CU (by rw[hlen];exact eo _) (fun k _=>⟨rfl,azh k⟩) (fun b o u hm hc=>⟨fun h=>hm (h.imp (OC b o) id),hc⟩)
 have I4:∀{h:aRK}{b:Nat},(j5.lR true sz rows).block h b->(j5.lR false sz rows).block h b:=by
  intro h b hb;cases h with
  |slice base n cap=>cases base<;>exact hb
  |_=>exact hb
 have aHG:∀(k:Nat)(y:j5)(b:Nat),H'[k]? =some y->y.block (U k) b->∃x,J.heap[k]? =some x/\x.block (U k) b:=by
  grind
 have B1:tv C U H' w J.df a.defers:=S.defers.step le (fun _ _ _=>rfl) (fun k y b hy hb=>by
  grind)
 refine {j9:=kP.mono le _ _ (kP.nb _ _ S.j9) S.j9,defers:=B1,om:=?_,apart:=?_,uh:=?_,size:=S.size,old:=S.old,n8:=S.n8,Cn:=?_,wZ:=S.wZ,rest:=S.rest,low:=⟨S.low.1,by show J.low<=H'.length;rw[hlen];exact S.low.2⟩,mA:=?_}
 ·intro k y hy;rcases n9 k y hy with⟨rfl,rfl⟩|hx
  ·have r:oP (C.env U H' w) (.lR false sz rows) (U k):=oP.mono (S.om k _ hl) le (fun _ _=>rfl);exact r
  ·exact oP.mono (S.om k y hx) le (fun _ _=>rfl)
 ·intro k k' y y' b hy hy' hb sK;obtain⟨x,hx,hb1⟩:=aHG k y b hy hb;obtain⟨x',BA,hb2⟩:=aHG k' y' b hy' sK;exact S.apart k k' x x' b hx BA hb1 hb2
 ·intro k y b o hy hb;obtain⟨x,hx,hb1⟩:=aHG k y b hy hb;exact S.uh k x b o hx hb1
 ·intro k y b o hy hm hb;rcases n9 k y hy with⟨rfl,rfl⟩|hx
  ·exact S.Cn k _ b o hl (aAh hm) hb
  ·exact S.Cn k y b o hx hm hb
 ·intro k hk;have:=S.mA k hk
  grind
theorem aJ1 {sz:Nat}(hl:J.heap[l]? =some (.lR false sz rows)):Lb J {J with heap:=J.heap.set l (.lR true sz rows)}:=fun _ U _ _ S=>⟨U,nF.ub hl S⟩
def auQ(J:jS)(l:Nat):Option j5->jS
 |some (.lR false sz rows)=>{J with heap:=J.heap.set l (.lR true sz rows)}
 |_=>J
theorem aEC:Lb J (auQ J l J.heap[l]?):=by
 unfold auQ
 grind [aJ1,Lb.refl]
def aqE(J:jS):Option AV->jS
 |some (.lR l _)=>auQ J l J.heap[l]?
 |_=>J
def aJ2{x:Option AV}:Lb J (aqE J x):=by
 unfold aqE
 grind [aEC,Lb.refl]
theorem aHH{x:Option AV}:(aqE J x).low=J.low:=by
 unfold aqE auQ;split
 ·split<;>rfl
 ·rfl
theorem aJ3{x:Option AV}:(aqE J x).df=J.df:=by
 unfold aqE auQ;split
 ·split<;>rfl
 ·rfl
def aMi:(∀l n,aqE J (some (.lR l n))=auQ J l J.heap[l]?):=fun _ _=>rfl
def aMj:(∀sz rows,auQ J l (some (.lR false sz rows))={J with heap:=J.heap.set l (.lR true sz rows)})/\(∀sz rows,auQ J l (some (.lR true sz rows))=J):=⟨fun _ _=>rfl,fun _ _=>rfl⟩
end freeze
def fzX(l:Nat)(J:jS):Option j5->Option jS
 |some (.lR _ _ _)=>some (auQ J l J.heap[l]?)
 |_=>aAf l J
def aMk{x:Option j5}(h:fzX l J x=some J'):Lb J J':=by
 unfold fzX at h
 grind [aEC,aHF]
def awq:List Nat->jS->Option jS
 |[],J=>some J
 |l::ls,J=>(fzX l J J.heap[l]?).bind (awq ls)
def aNT:(∀i s r,fzX l J (some (.lR i s r))=some (auQ J l J.heap[l]?))/\(∀cs,fzX l J (some (.cells cs))=aAf l J):=⟨fun _ _ _=>rfl,fun _=>rfl⟩
def aAi:∀{ls:List Nat}{J J':jS},awq ls J=some J'->Lb J J'
 |[],J,J',h=>by grind [awq,Lb.refl]
 |l::ls,J,J',h=>by
  simp only[awq,dV]at h;obtain⟨J1,h1,h2⟩:=h;exact(aMk h1).trans (aAi h2)
def Mh:List (List Nat×List Nat)->List Nat->jS->Option jS
 |[],_,J=>some J
 |(q,ls)::t,p,J=>if p=q then awq ls J else Mh t p J
def pI:∀(t:List (List Nat×List Nat))(p:List Nat)(J J':jS),Mh t p J=some J'->Lb J J'
 |[],_,J,J',h=>by grind [Mh,Lb.refl]
 |(q,ls)::t,p,J,J',h=>by
  simp only[Mh]at h;split at h
  ·exact aAi h
  ·exact pI t p J J' h
section aPR
def cI(k:aRN):QU Int where
 enc n:=[.int k n]
 mH _ cs:=dI1 k cs
 ok H n cs x h:=by
  unfold dI1 at h
  grind [lO.cons,ut,lO.nil]
 nb _ _:=⟨trivial,trivial⟩
def cB:QU Bool where
 enc b:=[.bool b]
 mH _ cs:=dB1 cs
 ok H n cs x h:=by
  unfold dB1 at h
  grind [lO.cons,ap4,lO.nil]
 nb _ _:=⟨trivial,trivial⟩
def cS:QU kj where
 enc s:=[.str (sb s)]
 mH _ cs:=dS1 cs
 ok H n cs x h:=by
  unfold dS1 at h
  grind [lO.cons,QS,lO.nil]
 nb _ _:=⟨trivial,trivial⟩
variable {γ:Type}
def dL1(r:Row W)(H:List j5):List AV->Option (List W)
 |[c]=>dL r H c
 |_=>none
def cL(r:Row W):QU (List W) where
 enc xs:=[.kF false r.sz (mp r.enc xs)]
 mH:=dL1 r
 ok H n cs x h:=by
  unfold dL1 at h
  grind [lO.cons,wh,lO.nil]
 nb n xs:=⟨Aw xs,trivial⟩
def dF1(f:aRJ):List AV->Option Unit
 |[c]=>dF f c
 |_=>none
def cF (f:aRJ):QU Unit where
 enc _:=[.func (.func f) [] []]
 mH _ cs:=dF1 f cs
 ok H n cs x h:=by
  unfold dF1 at h;split at h
  ·unfold dF at h;split at h
   ·split at h
    ·rename_i e;subst e;exact lO.cons (Co1.sub (OB.refl _) ⟨trivial,trivial⟩) lO.nil
    ·cases h
   ·cases h
  ·cases h
 nb _ _:=⟨⟨trivial,trivial⟩,trivial⟩
def aPS{k:aRN}:(∀n,(cI k).enc n=[.int k n])/\∀H cs,(cI k).mH H cs=dI1 k cs:=⟨fun _=>rfl,fun _ _=>rfl⟩
def aPT:(∀n,cB.enc n=[.bool n])/\∀H cs,cB.mH H cs=dB1 cs:=⟨fun _=>rfl,fun _ _=>rfl⟩
def aPU:(∀n,cS.enc n=[.str (sb n)])/\∀H cs,cS.mH H cs=dS1 cs:=⟨fun _=>rfl,fun _ _=>rfl⟩
def aPV{r:Row W}:(∀n,(cL r).enc n=[.kF false r.sz (mp r.enc n)])/\∀H cs,(cL r).mH H cs=dL1 r H cs:=⟨fun _=>rfl,fun _ _=>rfl⟩
def aPW:(∀n,(cF f).enc n=[.func (.func f) [] []])/\∀H cs,(cF f).mH H cs=dF1 f cs:=⟨fun _=>rfl,fun _ _=>rfl⟩
def dP(c:QU W):AV->Option W
 |.pp cs=>c.mH [] cs
 |_=>none
def aNU{c:QU W}{x:W}(h:dP c v=some x):OB v (.pp (c.enc x)):=by
 unfold dP at h;split at h
 ·exact OB.pp (c.ok [] 0 _ _ h).nG.aFH
 ·cases h
def uL(c:QU W):Ty W where
 enc x:=.pp (c.enc x)
 mH _:=dP c
 ok H n v x h:=Co.sub (aNU h) (c.nb n x)
 nb n x:=c.nb n x
def aJ4{c:QU W}{x:W}:(uL c).enc x=.pp (c.enc x):=rfl
def aJ5{c:QU W}:(uL c).mH H v=dP c v:=rfl
def dK1(f:aRJ)(a:Ty W):AV->Option W
 |.func (.func g) [] [x]=>if g=f then a.mH [] x else none
 |_=>none
def dK2(f:aRJ)(a:Ty W)(b:Ty O):AV->Option (W×O)
 |.func (.func g) [] [x,y]=>if g=f then(a.mH [] x).bind fun u=>(b.mH [] y).bind fun v=>some (u,v)else none
 |_=>none
def dK3(f:aRJ)(a:Ty W)(b:Ty O)(c:Ty γ):AV->Option (W×O×γ)
 |.func (.func g) [] [x,y,z]=>if g=f then(a.mH [] x).bind fun u=>(b.mH [] y).bind fun v=>(c.mH [] z).bind fun w=>some (u,v,w)else none
 |_=>none
def alE(f:aRJ)(a:Ty W):Ty W where
 enc x:=.func (.func f) [] [a.enc x]
 mH _:=dK1 f a
 ok H n v x h:=by
  unfold dK1 at h;split at h
  ·split at h
   ·rename_i e;subst e;exact Co.sub (OB.func qn.nil (qn.cons (a.ok [] 0 _ _ h).nG qn.nil)) ⟨trivial,a.nb n x,trivial⟩
   ·cases h
  ·cases h
 nb n x:=⟨trivial,a.nb n x,trivial⟩
def aNV(f:aRJ)(a:Ty W)(b:Ty O):Ty (W×O) where
 enc x:=.func (.func f) [] [a.enc x.1,b.enc x.2]
 mH _:=dK2 f a b
 ok H n v x h:=by
  unfold dK2 at h;split at h
  ·split at h
   ·rename_i e;subst e;simp only[dV,dW]at h;obtain⟨u,hu,w,hw,rfl⟩:=h;exact Co.sub (OB.func qn.nil (qn.cons (a.ok [] 0 _ _ hu).nG (qn.cons (b.ok [] 0 _ _ hw).nG qn.nil))) ⟨trivial,a.nb n u,b.nb n w,trivial⟩
   ·cases h
  ·cases h
 nb n x:=⟨trivial,a.nb n _,b.nb n _,trivial⟩
def aNW(f:aRJ)(a:Ty W)(b:Ty O)(c:Ty γ):Ty (W×O×γ) where
 enc x:=.func (.func f) [] [a.enc x.1,b.enc x.2.1,c.enc x.2.2]
 mH _:=dK3 f a b c
 ok H n v x h:=by
  unfold dK3 at h;split at h
  ·split at h
   ·rename_i e;subst e;simp only[dV,dW]at h;obtain⟨u,hu,w,hw,p,hp,rfl⟩:=h;exact Co.sub (OB.func qn.nil (qn.cons (a.ok [] 0 _ _ hu).nG (qn.cons (b.ok [] 0 _ _ hw).nG (qn.cons (c.ok [] 0 _ _ hp).nG qn.nil)))) ⟨trivial,a.nb n u,b.nb n w,c.nb n p,trivial⟩
   ·cases h
  ·cases h
 nb n x:=⟨trivial,a.nb n _,b.nb n _,c.nb n _,trivial⟩
def aMl{a:Ty W}:(∀x,(alE f a).enc x=.func (.func f) [] [a.enc x])/\∀H v,(alE f a).mH H v=dK1 f a v:=⟨fun _=>rfl,fun _ _=>rfl⟩
def aMm{a:Ty W}{b:Ty O}:(∀x,(aNV f a b).enc x=.func (.func f) [] [a.enc x.1,b.enc x.2])/\∀H v,(aNV f a b).mH H v=dK2 f a b v:=⟨fun _=>rfl,fun _ _=>rfl⟩
def aMn{a:Ty W}{b:Ty O}{c:Ty γ}:(∀x,(aNW f a b c).enc x=.func (.func f) [] [a.enc x.1,b.enc x.2.1,c.enc x.2.2])/\∀H v,(aNW f a b c).mH H v=dK3 f a b c v:=⟨fun _=>rfl,fun _ _=>rfl⟩
end aPR
section om
variable {γ:Type}
structure OTy(W:Type) where
 enc:W->j5
 mH:List j5->j5->Option W
 ok:∀H n x y,mH H x=some y->VJ H n x (enc y)
 qo:∀τ y,(enc y).qo τ=enc y
 nb:∀n y,sk n (enc y)
def daT(ub:Bool)(r:Row W):j5->Option (List W)
 |.lR aPX sz rows=>if aPX=ub/\sz=r.sz then qQ r.mH rows else none
 |_=>none
def aQL(ub:Bool)(r:Row W):OTy (List W) where
 enc xs:=.lR ub r.sz (mp r.enc xs)
 mH _:=daT ub r
 ok H n x y h:=by
  unfold daT at h;split at h
  ·split at h
   ·rename_i hc;obtain⟨rfl,rfl⟩:=hc;exact .inr (.inr (.inr (.inl ⟨_,_,_,_,rfl,rfl,(PV h).2,Aw y⟩)))
   ·cases h
  ·cases h
 qo τ y:=by grind [j5.qo,vz,Aw]
 nb n y:=Aw y
def dcT(c:QU W)(H:List j5):j5->Option W
 |.cells cs=>c.mH H cs
 |_=>none
def Ax(c:QU W):OTy W where
 enc x:=.cells (c.enc x)
 mH:=dcT c
 ok H n x y h:=by
  unfold dcT at h;split at h
  ·exact .inr (.inr (.inl ⟨_,_,rfl,rfl,(c.ok H n _ _ h).aHt⟩))
  ·cases h
 qo τ y:=by simp only[j5.qo];rw[q6 τ _ (c.nb 0 y)]
 nb n y:=c.nb n y
def aNX{ub:Bool}{r:Row W}:(∀x,(aQL ub r).enc x=.lR ub r.sz (mp r.enc x))/\∀H x,(aQL ub r).mH H x=daT ub r x:=⟨fun _=>rfl,fun _ _=>rfl⟩
def aNY{c:QU W}:(∀x,(Ax c).enc x=.cells (c.enc x))/\∀H x,(Ax c).mH H x=dcT c H x:=⟨fun _=>rfl,fun _ _=>rfl⟩
structure abe(O:Type) where
 enc:O->List j5
 mH:List j5->List j5->Option O
 ok:∀H n xs b,mH H xs=some b->CoH H n xs (enc b)/\(enc b).length=xs.length
 qo:∀τ b,∀y∈enc b,y.qo τ=y
 nb:∀n b,∀y∈enc b,sk n y
def sM:abe Unit where
 enc _:=[]
 mH _
  |[]=>some ()
  |_=>none
 ok H n xs b h:=by
  grind [CoH.nil]
 qo _ _:=by simp
 nb _ _:=by simp
def aJ6(o:OTy γ)(s:abe O)(H:List j5):List j5->Option (γ×O)
 |x::xs=>(o.mH H x).bind fun y=>(s.mH H xs).bind fun b=>some (y,b)
 |[]=>none
def uf(o:OTy γ)(s:abe O):abe (γ×O) where
 enc b:=o.enc b.1::s.enc b.2
 mH:=aJ6 o s
 ok H n xs b h:=by
  unfold aJ6 at h;split at h
  ·simp only[dV,dW]at h;obtain⟨y,hy,b,hb,rfl⟩:=h;obtain⟨h1,h2⟩:=s.ok H n _ _ hb;exact⟨⟨o.ok H n _ _ hy,h1⟩,by simp [h2]⟩
  ·cases h
 qo τ b y hy:=by
  simp only[eG]at hy;rcases hy with rfl|hy
  ·exact o.qo τ _
  ·exact s.qo τ _ y hy
 nb n b y hy:=by
  simp only[eG]at hy;rcases hy with rfl|hy
  ·exact o.nb n _
  ·exact s.nb n _ y hy
def aNZ:(∀b,sM.enc b=[])/\∀H,sM.mH H []=some ():=⟨fun _=>rfl,fun _=>rfl⟩
def aN0{o:OTy γ}{s:abe O}:(∀b,(uf o s).enc b=o.enc b.1::s.enc b.2)/\∀H xs,(uf o s).mH H xs=aJ6 o s H xs:=⟨fun _=>rfl,fun _ _=>rfl⟩
structure IG(O W:Type) where
 enc:O->W->List AV
 mH:O->List j5->List AV->Option W
 me:Nat
 ok:∀b H n xs a,me<=n->mH b H xs=some a->Aq H n xs (enc b a)
def F8:IG O Unit where
 enc _ _:=[]
 mH _ _
  |[]=>some ()
  |_=>none
 me:=0
 ok b H n xs a _ h:=by
  grind [Aq.nil]
def aJ7(t:Ty γ)(s:IG O W)(b:O)(H:List j5):List AV->Option (γ×W)
 |x::xs=>(t.mH H x).bind fun y=>(s.mH b H xs).bind fun a=>some (y,a)
 |[]=>none
def VQ(t:Ty γ)(s:IG O W):IG O (γ×W) where
 enc b a:=t.enc a.1::s.enc b a.2
 mH:=aJ7 t s
 me:=s.me
 ok b H n xs a hn h:=by
  unfold aJ7 at h;split at h
  ·simp only[dV,dW]at h;obtain⟨y,hy,a,ha,rfl⟩:=h;exact Aq.cons (t.ok H n _ _ hy) (s.ok b H n _ _ hn ha)
  ·cases h
def aJ8(k:Nat)(len:O->Nat)(s:IG O W)(b:O)(H:List j5):List AV->Option W
 |.lR l m::xs=>if l=k/\m=len b then s.mH b H xs else none
 |_=>none
def rsA(k:Nat)(len:O->Nat)(s:IG O W):IG O W where
 enc b a:=.lR k (len b)::s.enc b a
 mH:=aJ8 k len s
 me:=max (k+1) s.me
 ok b H n xs a hn h:=by
  unfold aJ8 at h;split at h
  ·split at h
   ·rename_i hc;obtain⟨rfl,rfl⟩:=hc;exact Aq.cons (Co.same (show _<n by omega)) (s.ok b H n _ _ (by omega) h)
   ·cases h
  ·cases h
def aN1:(∀(b:O) a,F8.enc b a=[])/\(∀(b:O) H,F8.mH b H []=some ())/\(F8:IG O Unit).me=0:=⟨fun _ _=>rfl,fun _ _=>rfl,rfl⟩
def aN2{t:Ty γ}{s:IG O W}:(∀b a,(VQ t s).enc b a=t.enc a.1::s.enc b a.2)/\(∀b H xs,(VQ t s).mH b H xs=aJ7 t s b H xs)/\(VQ t s).me=s.me:=⟨fun _ _=>rfl,fun _ _ _=>rfl,rfl⟩
def aN3{len:O->Nat}{s:IG O W}:(∀b a,(rsA k len s).enc b a=.lR k (len b)::s.enc b a)/\(∀b H xs,(rsA k len s).mH b H xs=aJ8 k len s b H xs)/\(rsA k len s).me=max (k+1) s.me:=⟨fun _ _=>rfl,fun _ _ _=>rfl,rfl⟩
end om
def sZ:List AV->AV
 |[y]=>y
 |ys=>.I3 ys
theorem CoH.take:∀{xs ys:List j5}(k:Nat),CoH H n (xs.take k) ys->CoH H n xs ys
 |_,[],_,_=>CoH.nil
 |[],_::_,k,h=>by cases k<;>exact h.elim
 |x::xs,y::ys,0,h=>h.elim
 |x::xs,y::ys,k+1,h=>⟨h.1,CoH.take k h.2⟩
section aPY
variable {M:kK R}
def alG(J J':jS):Prop:=∀(C:qC)(U:Nat->aRK)(tmps:Array aRK)(w:aRM),nF C U J {tmps,defers:=[]} w->∃U',nF C U' J' {tmps,defers:=[]} w
theorem Lb.e(h:Lb J J'):alG J J':=fun C U tmps w S=>h C U _ w S
def alG.trans {σ'':jS}(h:alG J J')(h':alG J' σ''):alG J σ'':=fun C U tmps w S=>
 let ⟨U',S'⟩:=h C U tmps w S
 h' C U' tmps w S'
def QW {xs:List AV}(hx:BC P J' rs=some xs)(I6:alG ⟨xs,J'.heap,J'.low,[]⟩ ⟨ys,H',J'.low,[]⟩):aoY P rs (fun o F7=>o= .ret (sZ ys)/\F7=H') none J':=by
 have key:∃x,Uf P J' rs=some x/\∃r F7,alw J' x r F7/\((vu.ret r)=.ret (sZ ys)/\F7=H'):=by
  have exp:∀(x:AV),(∀C U a w,nF C U J' a w->∀v,pm (C.env U J'.heap w) x v->∃vs:List aRK,kP (C.env U J'.heap w) xs vs/\∀E,kP E ys vs->pm E (sZ ys) v)->alw J' x (sZ ys) H':=by
   intro x aQK C U a w S v hv;obtain⟨vs,hvs,agQ⟩:=aQK C U a w S v hv;have S0:nF C U ⟨xs,J'.heap,J'.low,[]⟩ {tmps:=vs.toArray,defers:=[]} w:={S with j9:=by simpa using hvs,defers:=tv.nil};obtain⟨U',S1⟩:=I6 C U vs.toArray w S0;exact⟨U',{S1 with j9:=rfl,defers:=tv.nil},agQ _ (by simpa using S1.j9)⟩
  unfold Uf;rw[hx]
  match xs,hx,exp with
  |[x],hx,exp=>
   refine⟨x,rfl,_,_,exp x ?_,rfl,rfl⟩;intro C U a w S v hv;refine⟨[v],⟨v,[],rfl,hv,rfl⟩,fun E hr=>?_⟩;have:=hr.length
   match ys,this,hr with
   |[y],_,⟨u,us,he,h1,h2⟩=>
    simp only[eD]at he;obtain⟨rfl,_⟩:=he;exact h1
  |[],hx,exp=>
   refine⟨.I3 [],rfl,_,_,exp _ ?_,rfl,rfl⟩;rintro C U a w S v ⟨vs,rfl,hvs⟩;refine⟨vs.toList,hvs,fun E hr=>?_⟩;have h1:=hr.length;have h2:=hvs.length
   match ys,hr,h1 with
   |[],hr,_=>exact⟨vs,rfl,hr⟩
   |[_],hr,h1=>rw[h1]at h2;simp at h2
   |_::_::_,hr,h1=>rw[h1]at h2;simp at h2
  |x::x'::xs,hx,exp=>
   refine⟨.I3 (x::x'::xs),rfl,_,_,exp _ ?_,rfl,rfl⟩;rintro C U a w S v ⟨vs,rfl,hvs⟩;refine⟨vs.toList,hvs,fun E hr=>?_⟩;have h1:=hr.length;have h2:=hvs.length
   match ys,hr,h1 with
   |[],hr,h1=>rw[h1]at h2;simp at h2
   |[_],hr,h1=>rw[h1]at h2;simp at h2
   |_::_::_,hr,_=>exact⟨vs,rfl,hr⟩
 exact key
def aAj {y:AV}(I6:alG ⟨[x],J'.heap,J'.low,[]⟩ ⟨[y],H',J'.low,[]⟩):aoY P rs (fun o F7=>o=.panic y/\F7=H') (some x) J':=by
 refine⟨y,H',?_,rfl,rfl⟩;intro C U a w S v hv;have S0:nF C U ⟨[x],J'.heap,J'.low,[]⟩ {tmps:=[v].toArray,defers:=[]} w:={S with j9:=⟨v,[],rfl,hv,rfl⟩,defers:=tv.nil};obtain⟨U',S1⟩:=I6 C U _ w S0;obtain⟨u,us,he,h1,_⟩:=S1.j9;simp only[eD]at he;obtain⟨rfl,_⟩:=he;exact⟨U',{S1 with j9:=rfl,defers:=tv.nil},h1⟩
def am7{fn:Func}{r:R}(G:Fw M)(hf:M.P.funcs[f]? =some fn)(hb:fn.body=some M.body)(sv:(fn.name != "runtime.NumGoroutine")=true)
 (GH:uc H.length args) (I7:∀x∈H,sk H.length x) (hn:fn.ntmps=n) (KO:fn.results=rs.toArray)
 (asF:∀J,M.out J=some r->am0 M.P (aoY M.P rs V) J.df none J) (aN4:∀x J,M.rk x J=some r->am0 M.P (aoY M.P rs V) J.df (some x) J)
 (h:run M [.at []] {j9:=args++eb (n-args.length) .any,heap:=H,low:=H.length}=some r):FnG M.P f args H V:=by
 refine azN hf hb sv GH I7 hn KO ?_;exact adm G h (fun J' hs=>⟨asF J' hs,asF J' hs⟩) aN4
def vX{fn:Func}{r:R}(G:Fw M)(hf:M.P.funcs[f]? =some fn)(hb:fn.body=some M.body)(sv:(fn.name != "runtime.NumGoroutine")=true)
 (GH:uc H.length args) (I7:∀x∈H,sk H.length x) (hn:fn.ntmps=n) (KO:fn.results=rs.toArray)
 (asF:∀J,M.out J=some r->J.df=[]/\∃xs,BC M.P J rs=some xs/\alG ⟨xs,J.heap,J.low,[]⟩ ⟨ys,H',J.low,[]⟩)
 (h:run M [.at []] {j9:=args++eb (n-args.length) .any,heap:=H,low:=H.length}=some r) (hP:∀x J',M.rk x J'=none:=by intros;rfl):FnG M.P f args H (fun o F7=>o=.ret (sZ ys)/\F7=H'):=by
 refine am7 G hf hb sv GH I7 hn KO (fun J' hs=>?_) (fun x J' hx=>by rw[hP x J']at hx;cases hx) h;obtain⟨hd,xs,hx,I6⟩:=asF J' hs;rw[hd];exact QW hx I6
end aPY
section ao4
variable {γ:Type}
def ao4(P:aRL)(rs:List ResultVar)(os:abe O)(s:IG O W)(low:Nat)(J:jS):Option (O×W):=
 (BC P J rs).bind fun xs=>(os.mH J.heap (J.heap.take low)).bind fun b=>(s.mH b J.heap xs).bind fun a=>bif (J.low==low)&&decide (s.me<=low)&&decide (low<=J.heap.length)&&J.df.isEmpty then some (b,a)else none
def Yi{os:abe O}{s:IG O W}{r:O×W}(h:ao4 P rs os s low J=some r):
 J.df=[]/\∃xs,BC P J rs=some xs/\alG ⟨xs,J.heap,J.low,[]⟩ ⟨s.enc r.1 r.2,os.enc r.1,J.low,[]⟩:=by
 unfold ao4 at h;simp only[dV]at h;obtain⟨xs,hx,b,hb,a,ha,h⟩:=h;cases hc:((J.low==low)&&decide (s.me<=low)&&decide (low<=J.heap.length)&&J.df.isEmpty)with
 |false=>simp [hc]at h
 |true=>
  simp only[hc,jE,dW]at h;subst h;simp only[dY,jL,jK]at hc;obtain⟨⟨⟨h1,h2⟩,h3⟩,h4⟩:=hc;refine⟨by simpa using h4,xs,hx,Lb.e (ase.imp (J:=⟨xs,J.heap,J.low,[]⟩) (J':=⟨s.enc b a,os.enc b,J.low,[]⟩) ⟨⟨⟨rfl,?_⟩,rfl,agR⟩,?_,?_⟩)⟩
  ·obtain⟨_,h5⟩:=os.ok J.heap 0 _ _ hb
   grind
  ·show Aq J.heap (os.enc b).length xs (s.enc b a);obtain⟨_,h5⟩:=os.ok J.heap 0 _ _ hb;exact s.ok b J.heap _ xs a (by rw[h5,List.length_take];omega) ha
  ·show CoH J.heap (os.enc b).length J.heap (os.enc b);exact CoH.take low (os.ok J.heap _ _ _ hb).1
end ao4
section aED
theorem asK:∀(ls:List Nat)(G:List j5)(ys:List j5)(l:Nat)(z:j5),l ∉ ls->(sL G ls ys).set l z=sL (G.set l z) ls ys
 |[],_,_,_,_,_=>by simp [sL]
 |_::_,_,[],_,_,_=>by simp [sL]
 |k::ls,G,y::ys,l,z,h=>by
  simp only[eG,not_or]at h;rw[sL,sL,asK ls _ ys l z h.2,List.set_comm _ _ (fun e=>h.1 e.symm)]
theorem Zw:∀(ls:List Nat)(G:List j5)(ys ys':List j5),ls.Nodup->ls.length<=ys'.length->sL (sL G ls ys) ls ys'=sL G ls ys'
 |[],_,_,_,_,_=>by simp [sL]
 |_::_,_,_,[],_,h=>by simp at h
 |l::ls,G,[],y'::ys',hnd,h=>by simp [sL]
 |l::ls,G,y::ys,y'::ys',hnd,h=>by
  rw[List.nodup_cons]at hnd;simp only[eu,Nat.add_le_add_iff_right]at h;simp only[sL];rw[asK ls _ ys l y' hnd.1,List.set_set,Zw ls _ ys ys' hnd.2 h]
def adq{H:List j5}{n:Nat}:∀{xs ys:List j5},(∀(k:Nat)(y:j5),ys[k]? =some y->∃x,xs[k]? =some x/\VJ H n x y)->CoH H n xs ys
 |_,[],_=>CoH.nil
 |[],y::ys,h=>by obtain⟨x,hx,_⟩:=h 0 y (by simp);simp at hx
 |x::xs,y::ys,h=>by
  obtain⟨x',hx,hc⟩:=h 0 y (by simp);simp at hx;subst hx;exact⟨hc,adq fun k z hz=>by have:=h (k+1) z (by simpa using hz);simpa using this⟩
theorem Aq.append:∀{xs ys us vs:List AV},Aq H n xs ys->Aq H n us vs->Aq H n (xs++us) (ys++vs)
 |[],_,_,_,rfl,h=>h
 |_::_,_,_,_,⟨y,zs,rfl,h,hs⟩,h2=>⟨y,zs++_,rfl,h,Aq.append hs h2⟩
def aED {Ug:List AV}(hG:FnG P f args Ys (fun o H'=>o= .ret r/\H'=Ys'))(hnd:Y.Nodup)(hlen:Y.length=Ys.length)(aAk:Y.length<=Ys'.length)
 (Sm:∀(i k:Nat),Y[i]? =some k->∃x y,J.heap[k]? =some x/\Ys[i]? =some y/\VJ J.heap J.heap.length x y) (Ye:Aq J.heap J.heap.length Ug (s6 (pe Y J.heap.length) args))
 (aLV:∀y∈Ys++Ys',∀τ,y.qo τ=y):BB P f Ug J (fun o H'=>o=.ret (r.qo (pe Y J.heap.length))/\H'=sL J.heap Y Ys'++Ys'.drop Y.length):=by
 refine⟨hG.1,fun C U a w hP S vs hr=>?_⟩
 let H1:=sL J.heap Y Ys
 have hl1:H1.length=J.heap.length:=xP _ _ _;have S0:nF C U ⟨J.j9++Ug,J.heap,J.low,J.df⟩ {tmps:=a.tmps++vs,defers:=a.defers} w:={S with j9:=by simpa using S.j9.append hr,defers:=S.defers}
 have hat:∀(i k:Nat),Y[i]? =some k->∃x y,J.heap[k]? =some x/\Ys[i]? =some y/\VJ J.heap J.heap.length x y/\H1[k]? =some y:=by
  grind [abb]
 have hw:ase ⟨J.j9++Ug,J.heap,J.low,J.df⟩ ⟨J.j9++s6 (pe Y J.heap.length) args,H1,J.low,J.df⟩:=by
  refine⟨⟨⟨rfl,by show J.low<=H1.length;rw[hl1];exact S.low.2⟩,rfl,by show aCb H1.length J.df;rw[hl1];exact QM.nb S.defers.2.2⟩,?_,?_⟩
  ·show Aq J.heap H1.length _ _;rw[hl1];exact Aq.append (Aq.same (kP.nb _ _ S.j9)) Ye
  ·show CoH J.heap H1.length J.heap H1;rw[hl1];refine adq fun k y hy=>?_
   by_cases hk:k∈Y
   ·grind [eE]
   ·have hy2:J.heap[k]? =some y:=by grind [Ii]
    exact⟨y,hy2,.inr (.inl ⟨rfl,aa9 (S.om k y hy2)⟩)⟩
 obtain⟨U',S1⟩:=hw.imp C U _ w S0;have hsl:=S1.j9;simp only[ez]at hsl;have hsz:a.tmps.toList.length=J.j9.length:=S.j9.length;have h1:=hsl.take J.j9.length;have h2:=hsl.drop J.j9.length;rw[ed rfl,ed hsz]at h1;rw[eg rfl,eg hsz]at h2;have S2:nF C U' {J with heap:=H1} a w:={S1 with j9:=h1,defers:=S1.defers}
 have xK:BB P f (s6 (pe Y H1.length) args) {J with heap:=H1} (fun o H'=>o=.ret (r.qo (pe Y H1.length))/\H'=sL J.heap Y Ys'++Ys'.drop Y.length):=by
  refine axv (J:={J with heap:=H1}) hG Y hlen hnd (qn.refl _) ?_ ?_
  ·grind
  ·rintro o H' ⟨rfl,rfl⟩;refine⟨rfl,?_⟩
   have hid:∀τ,H'.map (j5.qo τ)=H':=by
    intro τ;have:H'.map (j5.qo τ)=H'.map id:=eA fun y hy=>aLV y (List.mem_append.2 (.inr hy)) τ
    rw[this,List.map_id]
   grind [List.map_drop,xq,Zw]
 rw[hl1]at xK;exact xK.2 C U' a w hP S2 vs h2
end aED
section args
variable {γ:Type}
structure II(O W:Type) where
 enc:O->W->List AV
 mH:List Nat->O->List j5->List AV->Option W
 ok:∀Y b H xs a,mH Y b H xs=some a->Aq H H.length xs (s6 (pe Y H.length) (enc b a))
def IJ:II O Unit where
 enc _ _:=[]
 mH _ _ _
  |[]=>some ()
  |_=>none
 ok Y b H xs a h:=by
  split at h
  ·exact Aq.nil
  ·cases h
def aJ9(t:Ty γ)(s:II O W)(Y:List Nat)(b:O)(H:List j5):List AV->Option (γ×W)
 |x::xs=>(t.mH H x).bind fun y=>(s.mH Y b H xs).bind fun a=>some (y,a)
 |[]=>none
def asT(t:Ty γ)(s:II O W):II O (γ×W) where
 enc b a:=t.enc a.1::s.enc b a.2
 mH:=aJ9 t s
 ok Y b H xs a h:=by
  unfold aJ9 at h;split at h
  ·simp only[dV,dW]at h;obtain⟨y,hy,a,ha,rfl⟩:=h;refine Aq.cons ?_ (s.ok Y b H _ _ ha);rw[PS _ _ (t.nb 0 y)];exact t.ok H _ _ _ hy
  ·cases h
def aKa(k:Nat)(s:II O W)(Y:List Nat)(b:O)(H:List j5):List AV->Option W
 |.ptr l off::xs=>if off=0/\Y[k]? =some l/\l<H.length then s.mH Y b H xs else none
 |_=>none
theorem awr(h:Y[k]? =some l):pe Y n k=l:=by
 grind [pe]
def XA(k:Nat)(s:II O W):II O W where
 enc b a:=.ptr k 0::s.enc b a
 mH:=aKa k s
 ok Y b H xs a h:=by
  unfold aKa at h;split at h
  ·split at h
   ·rename_i hc;obtain⟨rfl,hc,hl⟩:=hc;refine Aq.cons ?_ (s.ok Y b H _ _ h);show Co H H.length _ (.ptr (pe Y H.length k) 0);rw[awr hc];exact Co.same hl
   ·cases h
  ·cases h
def aKb(k:Nat)(len:O->Nat)(s:II O W)(Y:List Nat)(b:O)(H:List j5):List AV->Option W
 |.lR l m::xs=>if m=len b/\Y[k]? =some l/\l<H.length then s.mH Y b H xs else none
 |_=>none
def asA(k:Nat)(len:O->Nat)(s:II O W):II O W where
 enc b a:=.lR k (len b)::s.enc b a
 mH:=aKb k len s
 ok Y b H xs a h:=by
  unfold aKb at h;split at h
  ·split at h
   ·rename_i hc;obtain⟨rfl,hc,hl⟩:=hc;refine Aq.cons ?_ (s.ok Y b H _ _ h);show Co H H.length _ (.lR (pe Y H.length k) _);rw[awr hc];exact Co.same hl
   ·cases h
  ·cases h
def aN5:(∀(b:O) a,IJ.enc b a=[])/\(∀Y (b:O) H,IJ.mH Y b H []=some ()):=⟨fun _ _=>rfl,fun _ _ _=>rfl⟩
def aN6{t:Ty γ}{s:II O W}:(∀b a,(asT t s).enc b a=t.enc a.1::s.enc b a.2)/\(∀Y b H xs,(asT t s).mH Y b H xs=aJ9 t s Y b H xs):=⟨fun _ _=>rfl,fun _ _ _ _=>rfl⟩
def aN7{s:II O W}:(∀b a,(XA k s).enc b a=.ptr k 0::s.enc b a)/\(∀Y b H xs,(XA k s).mH Y b H xs=aKa k s Y b H xs):=⟨fun _ _=>rfl,fun _ _ _ _=>rfl⟩
def aN8{len:O->Nat}{s:II O W}:(∀b a,(asA k len s).enc b a=.lR k (len b)::s.enc b a)/\(∀Y b H xs,(asA k len s).mH Y b H xs=aKb k len s Y b H xs):=⟨fun _ _=>rfl,fun _ _ _ _=>rfl⟩
end args
def aHI:AV->Option Nat
 |.ptr l _=>some l
 |.lR l _=>some l
 |_=>none
def aHJ(args:List AV)(i:Nat):Option Nat:=(args[i]?).bind aHI
def KP:List Nat->Bool
 |[]=>true
 |x::xs=> !xs.contains x&&KP xs
theorem Vz:∀{xs:List Nat},KP xs=true->xs.Nodup
 |[],_=>List.nodup_nil
 |x::xs,h=>by
  simp only[KP,dY,Bool.not_eq_true',List.contains_eq_mem,decide_eq_false_iff_not]at h;exact List.nodup_cons.2 ⟨h.1,Vz h.2⟩
def ap5(H:List j5)(k:Nat):Option j5:=H[k]?
section Ah

def Ah(pos:List Nat)(os:abe O)(aRs:II O W)(PW:abe O')(rs:IG O' W')(F:O->W->Option (O'×W')):Ent:=fun args H=>
 (qQ (aHJ args) pos).bind fun Y=>bif KP Y then(qQ (ap5 H) Y).bind fun xs=>(os.mH H xs).bind fun b=>(aRs.mH Y b H args).bind fun a=>(F b a).bind fun r=>
   bif decide (Y.length<=(PW.enc r.1).length)then some ((sZ (rs.enc r.1 r.2)).qo (pe Y H.length),sL H Y (PW.enc r.1)++(PW.enc r.1).drop Y.length)else none else none
def abf{H:List j5}:∀{Y:List Nat}{xs:List j5},qQ (ap5 H) Y=some xs->Y.length=xs.length/\∀(i k:Nat),Y[i]? =some k->∃x,xs[i]? =some x/\H[k]? =some x
 |[],xs,h=>by grind [qQ]
 |k::Y,xs,h=>by
  simp only[qQ,dV,dW]at h;obtain⟨x,hx,ys,hys,rfl⟩:=h;obtain⟨h1,h2⟩:=abf hys;refine⟨by simp [h1],fun i q hi=>?_⟩;cases i with
  |zero=>simp at hi;subst hi;exact⟨x,by simp,hx⟩
  |succ i=>grind
def pq{pos:List Nat}{os:abe O}{aRs:II O W}{PW:abe O'}{rs:IG O' W'}{F:O->W->Option (O'×W')}
 (h:∀b a r,F b a=some r->FnG P f (aRs.enc b a) (os.enc b) (fun o H'=>o=.ret (sZ (rs.enc r.1 r.2))/\H'=PW.enc r.1)):Uj P f (Ah pos os aRs PW rs F):=by
 intro args J r H' he;unfold Ah at he;simp only[dV]at he;obtain⟨Y,_,he⟩:=he;cases hnd:KP Y with
 |false=>simp [hnd]at he
 |true=>
  simp only[hnd,jE,dV]at he;obtain⟨xs,hxs,b,hb,a,ha,q,hq,he⟩:=he;cases hl:decide (Y.length<=(PW.enc q.1).length)with
  |false=>simp [hl]at he
  |true=>
   simp only[hl,jE,dW,dX]at he;obtain⟨rfl,rfl⟩:=he;obtain⟨h1,h2⟩:=abf hxs;obtain⟨h3,h4⟩:=os.ok J.heap J.heap.length _ _ hb;refine aED (h b a q hq) (Vz hnd) (by rw[h1,h4]) (jI hl) ?_ (aRs.ok Y b J.heap _ _ ha) ?_
   ·intro i k hi;obtain⟨x,hx,BA⟩:=h2 i k hi;have sJ:i<(os.enc b).length:=by grind
    obtain⟨x2,aQK,hc⟩:=h3.get (dZ sJ)
    grind
   ·intro y hy τ;rcases List.mem_append.1 hy with hy|hy
    ·exact os.qo τ _ y hy
    ·exact PW.qo τ _ y hy
end Ah
abbrev aKc:=List AV->List j5->Option vF
section aC4

def aN9.nG:∀{xs ys:List AV},Aq [] n xs ys->qn xs ys
 |[],_,rfl=>qn.nil
 |_::_,_,⟨y,zs,rfl,h,hs⟩=>qn.cons h.nG (aN9.nG hs)
def aC4(aRs:II Unit W)(PW:abe O')(rs:IG O' W')(F:W->Option (O'×W')):aKc:=fun args H=>
 nX (uc 0 args) ((aRs.mH [] () [] args).bind fun a=>(F a).bind fun r=>bif (PW.enc r.1).isEmpty then none else some {val:=(sZ (rs.enc r.1 r.2)).qo (pe [] H.length),nw:=PW.enc r.1})
def aEE{aRs:II Unit W}{PW:abe O'}{rs:IG O' W'}{F:W->Option (O'×W')}(GH:∀a,uc 0 (aRs.enc () a))
 (h:∀a r,F a=some r->FnG P f (aRs.enc () a) [] (fun o H'=>o=.ret (sZ (rs.enc r.1 r.2))/\H'=PW.enc r.1)):
 ∀args J e,aC4 aRs PW rs F args J.heap=some e->IF P f args J e:=by
 intro args J e he;unfold aC4 at he;rw[mX]at he;obtain⟨hb,he⟩:=he;simp only[dV]at he;obtain⟨a,ha,r,hr,he⟩:=he;cases aOa:(PW.enc r.1).isEmpty with
 |true=>rw[aOa]at he;cases he
 |false=>
  rw[aOa,jF,dW]at he;subst he;have sv:PW.enc r.1≠[]:=by grind
  refine⟨⟨by simp,by simp⟩,fun J' _ hlen _=>?_⟩;have hlen:=hlen sv
  have amM:qn args (aRs.enc () a):=by
   have:=aN9.nG (aRs.ok [] () [] args a ha)
   grind [q6]
  have hG:=h a r hr
  have hG':FnG P f args [] (fun o H'=>o=.ret (sZ (rs.enc r.1 r.2))/\H'=PW.enc r.1):=
   ⟨hG.1,hb,hG.2.2.1,fun C U w hP h0 hN hφ hM HS vs hr=>hG.2.2.2 C U w hP h0 hN hφ hM HS vs (amM _ _ hr)⟩
  have:=aED (J:=J') (Ug:=args) (Y:=[]) hG' List.nodup_nil rfl (eC _) (by simp) (by rw[q6 _ _ hb];exact Aq.same (sy (eC _) _ hb)) (by
   intro y hy τ;simp only[eO]at hy;exact PW.qo τ _ y hy)
  rw[hlen]at this;refine BB.mono this ?_;rintro o H ⟨rfl,rfl⟩;refine⟨rfl,?_⟩;show sL J'.heap [] (PW.enc r.1)++_=J'.heap++PW.enc r.1;cases PW.enc r.1<;>rfl
def aAl:List (Nat×aKc)->aRJ->List AV->List j5->Option vF
 |[],_,_,_=>none
 |(g,e)::t,f,args,H=>if f=g then e args H else aAl t f args H
def l2:List Nat->aRJ->Bool
 |[],_=>false
 |g::t,f=>f==g||l2 t f
def rL:∀(f:aRJ)(args:List AV)(J:jS)(e:vF),(fun _ _ _=>none:aRJ->List AV->List j5->Option vF) f args J.heap=some e->IF P f args J e:=by
 intro f args J e h;cases h
def ap6:∀(f:aRJ)(args:List AV)(J:jS)(e:vF),aAl [] f args J.heap=some e->IF P f args J e:=by
 intro f args J e h;cases h
def am8{e:aKc}{t:List (Nat×aKc)}(h1:∀args J ef,e args J.heap=some ef->IF P g args J ef)
 (h2:∀(f:aRJ)(args:List AV)(J:jS)(ef:vF),aAl t f args J.heap=some ef->IF P f args J ef):∀(f:aRJ)(args:List AV)(J:jS)(ef:vF),aAl ((g,e)::t) f args J.heap=some ef->IF P f args J ef:=by
 grind [aAl]
end aC4
section aKd
variable {a:Act}
def agY{xs:List AV}{y:j5}(hl:H[l]? =some y)(JB:low<=l)(GH:∀z∈H.take low,sk low z)(hy:sk low y)(hr:uc (low+1) (s6 (adk low l) xs)):
 alG ⟨xs,H,low,[]⟩ ⟨s6 (adk low l) xs,H.take low++[y],low,[]⟩:=by
 intro C U tmps w S;obtain⟨U',S',tD⟩:=aCm (J:=⟨xs,H,low,[]⟩) (x:=.I3 xs) hl JB GH hy hr C U _ w S (.tuple tmps) ⟨tmps,rfl,S.j9⟩;obtain⟨vs,hv,rl⟩:=tD;simp only[Value.tuple.injEq]at hv;subst hv;exact⟨U',{S' with j9:=rl,defers:=tv.nil}⟩
variable {γ:Type}
def aAm(P:aRL)(rs:List ResultVar)(j:Nat)(r:Row γ)(s:IG (List γ×Unit) W)(J:jS):Option ((List γ×Unit)×W):=
 bif J.df.isEmpty then(BC P J rs).bind fun xs=>aHK (aqE (GQ j r.sz true ⟨xs,J.heap,0,[]⟩) (GQ j r.sz true ⟨xs,J.heap,0,[]⟩).j9[j]?) j r s J.low else none
where
 aHK (τ:jS) (j:Nat) (r:Row γ) (s:IG (List γ×Unit) W) (low:Nat):Option ((List γ×Unit)×W):=
  match τ.j9[j]? with
  |some (.lR l _)=>match τ.heap[l]? with
   |some y=>nX (low=0/\sk 0 y/\uc 1 (s6 (adk 0 l) τ.j9)) (((uf (aQL true r) sM).mH [y] [y]).bind fun b=>(s.mH b [y] (s6 (adk 0 l) τ.j9)).bind fun a=>bif decide (s.me<=1)then some (b,a)else none)
   |none=>none
  |_=>none
def aQM{r:Row γ}{s:IG (List γ×Unit) W}{q:(List γ×Unit)×W}(h:aAm P rs j r s J=some q):
 J.df=[]/\∃xs,BC P J rs=some xs/\alG ⟨xs,J.heap,J.low,[]⟩ ⟨s.enc q.1 q.2,(uf (aQL true r) sM).enc q.1,J.low,[]⟩:=by
 unfold aAm at h;cases hd0:J.df with
 |cons p q=>rw[hd0]at h;cases h
 |nil=>
 rw[hd0]at h;simp only[eI,jE]at h;simp only[dV]at h;obtain⟨xs,hx,h⟩:=h;refine⟨rfl,xs,hx,?_⟩;unfold aAm.aHK at h;split at h
 case h_2=>cases h
 rename_i l m hs;split at h
 case h_2=>cases h
 rename_i y hl;rw[mX]at h;obtain⟨⟨JB,h1,h2⟩,h⟩:=h;simp only[dV]at h;obtain⟨b,hb,a,ha,h⟩:=h;cases hd:decide (s.me<=1)with
 |false=>simp [hd]at h
 |true=>
  simp only[hd,jE,dW]at h;subst h;rw[JB];have i1:Lb ⟨xs,J.heap,0,[]⟩ (aqE (GQ j r.sz true ⟨xs,J.heap,0,[]⟩) (GQ j r.sz true ⟨xs,J.heap,0,[]⟩).j9[j]?):=asI.trans aJ2;have aOb:(aqE (GQ j r.sz true ⟨xs,J.heap,0,[]⟩) (GQ j r.sz true ⟨xs,J.heap,0,[]⟩).j9[j]?).low=0:=by grind [aHH,GQ]
  have aPZ:(aqE (GQ j r.sz true ⟨xs,J.heap,0,[]⟩) (GQ j r.sz true ⟨xs,J.heap,0,[]⟩).j9[j]?).df=[]:=by grind [aJ3,GQ]
  generalize hτ:aqE (GQ j r.sz true ⟨xs,J.heap,0,[]⟩) (GQ j r.sz true ⟨xs,J.heap,0,[]⟩).j9[j]? =τ at*;have i2:alG ⟨τ.j9,τ.heap,0,[]⟩ ⟨s6 (adk 0 l) τ.j9,τ.heap.take 0++[y],0,[]⟩:=agY hl (eC _) (by simp) h1 h2;have e:τ=⟨τ.j9,τ.heap,0,[]⟩:=by cases τ;grind
  rw[e]at i1;refine(i1.e.trans i2).trans ?_;simp only[List.take_zero,eO];obtain⟨h5,h6⟩:=(uf (aQL true r) sM).ok [y] 1 _ _ hb;refine Lb.e (ase.imp (J:=⟨s6 (adk 0 l) τ.j9,[y],0,[]⟩) (J':=⟨s.enc b a,(uf (aQL true r) sM).enc b,0,[]⟩) ⟨⟨⟨rfl,eC _⟩,rfl,agR⟩,?_,?_⟩)
  ·show Aq [y] ((uf (aQL true r) sM).enc b).length _ _;rw[h6];exact s.ok b [y] 1 _ a (jI hd) ha
  grind
end aKd
def am9(i:Nat)(ub:Bool)(sz:Nat)(e:Ent):Ent:=fun args H=>
 match args[i]? with
 |some (.kF true _ [])=>e (args.set i (.lR H.length 0)) (H++[.lR ub sz []])
 |_=>e args H
def abg{ub:Bool}{sz:Nat}{e:Ent}(h:Uj P f e):Uj P f (am9 i ub sz e):=by
 intro args J r H' he;unfold am9 at he;split at he
 ·rename_i s hi;have hc:=h (args.set i (.lR J.heap.length 0)) {J with heap:=J.heap++[.lR ub sz []]} r H' he;refine⟨hc.1,fun C U a w hP S vs hr=>?_⟩;have S0:nF C U ⟨J.j9++args,J.heap,J.low,J.df⟩ {tmps:=a.tmps++vs,defers:=a.defers} w:={S with j9:=by simpa using S.j9.append hr,defers:=S.defers}
  have n9:(J.j9++args)[J.j9.length+i]? =some (.kF true s []):=by
   grind
  obtain⟨U',S1⟩:=azw (J:=⟨J.j9++args,J.heap,J.low,J.df⟩) (sz:=sz) (ub:=ub) n9 C U _ w S0
  have aCd:(J.j9++args).set (J.j9.length+i) (.lR J.heap.length 0)=J.j9++args.set i (.lR J.heap.length 0):=by
   grind
  have hsl:=S1.j9;simp only[aCd,ez]at hsl;have hsz:a.tmps.toList.length=J.j9.length:=S.j9.length;have h1:=hsl.take J.j9.length;have h2:=hsl.drop J.j9.length;rw[ed rfl,ed hsz]at h1;rw[eg rfl,eg hsz]at h2;have S2:nF C U' {J with heap:=J.heap++[.lR ub sz []]} a w:={S1 with j9:=h1,defers:=S1.defers};exact hc.2 C U' a w hP S2 vs h2
 ·exact h args J r H' he
def VR(e e':Ent):Ent:=fun args H=>(e args H).or (e' args H)
def abh{e e':Ent}(h:Uj P f e)(h':Uj P f e'):Uj P f (VR e e'):=by
 intro args J r H' he;unfold VR at he;rw[eQ]at he;rcases he with he|⟨_,he⟩
 ·exact h args J r H' he
 ·exact h' args J r H' he
section
variable {M:kK R} {k:List Kt}
def aC5{x}:xb M kE dst rest k J (.move x)=tO M kE dst rest k J (opX M.P J (.move x)):=by rw[<-uT];rfl
def axI{x}:xb M kE dst rest k J (.assign x)=tO M kE dst rest k J (opX M.P J (.assign x)):=by rw[<-uT];rfl
def aC6{c}{a}{b}:xb M kE dst rest k J (.pick c a b)=tO M kE dst rest k J (opX M.P J (.pick c a b)):=by rw[<-uT];rfl
def aAn{t}:xb M kE dst rest k J (.alloc t)=tO M kE dst rest k J (opX M.P J (.alloc t)):=by rw[<-uT];rfl
def aFJ{t}{v}:xb M kE dst rest k J (.box t v)=tO M kE dst rest k J (opX M.P J (.box t v)):=by rw[<-uT];rfl
def aAo{t}{ps}:xb M kE dst rest k J (.build t ps)=tO M kE dst rest k J (opX M.P J (.build t ps)):=by rw[<-uT];rfl
def ao5{t}{n}{ps}:xb M kE dst rest k J (.buildSlice t n ps)=tO M kE dst rest k J (opX M.P J (.buildSlice t n ps)):=by rw[<-uT];rfl
def axJ{m}{a}{b}{c}:xb M kE dst rest k J (.insert m a b c)=tO M kE dst rest k J (opX M.P J (.insert m a b c)):=by rw[<-uT];rfl
def aC7{t}{a}:xb M kE dst rest k J (.load t a)=tO M kE dst rest k J (opX M.P J (.load t a)):=by rw[<-uT];rfl
def aAp{t}{a}{v}:xb M kE dst rest k J (.store t a v)=tO M kE dst rest k J (opX M.P J (.store t a v)):=by rw[<-uT];rfl
def asL{x}:xb M kE dst rest k J (.nilCheck x)=tO M kE dst rest k J (opX M.P J (.nilCheck x)):=by rw[<-uT];rfl
def aAq{o}{t}{x}{y}{u}:xb M kE dst rest k J (.binOp o t x y u)=tO M kE dst rest k J (opX M.P J (.binOp o t x y u)):=by rw[<-uT];rfl
def aC8{o}{t}{x}:xb M kE dst rest k J (.unOp o t x)=tO M kE dst rest k J (opX M.P J (.unOp o t x)):=by rw[<-uT];rfl
def auR{s}{d}{x}:xb M kE dst rest k J (.convert s d x)=tO M kE dst rest k J (opX M.P J (.convert s d x)):=by rw[<-uT];rfl
def ajN{t}{x}:xb M kE dst rest k J (.makeInterface t x)=tO M kE dst rest k J (opX M.P J (.makeInterface t x)):=by rw[<-uT];rfl
def asM{f}{a}{b}:xb M kE dst rest k J (.makeFunc f a b)=tO M kE dst rest k J (opX M.P J (.makeFunc f a b)):=by rw[<-uT];rfl
def auS{t}{r}:xb M kE dst rest k J (.makeMap t r)=tO M kE dst rest k J (opX M.P J (.makeMap t r)):=by rw[<-uT];rfl
def aqF{t}{l}{c}:xb M kE dst rest k J (.makeSlice t l c)=tO M kE dst rest k J (opX M.P J (.makeSlice t l c)):=by rw[<-uT];rfl
def aAr{t}{x}{l}{h}{m}:xb M kE dst rest k J (.slice t x l h m)=tO M kE dst rest k J (opX M.P J (.slice t x l h m)):=by rw[<-uT];rfl
def aqG{t}{x}{f}:xb M kE dst rest k J (.fieldAddr t x f)=tO M kE dst rest k J (opX M.P J (.fieldAddr t x f)):=by rw[<-uT];rfl
def aAs{t}{x}{f}:xb M kE dst rest k J (.field t x f)=tO M kE dst rest k J (opX M.P J (.field t x f)):=by rw[<-uT];rfl
def aqH{t}{x}{i}:xb M kE dst rest k J (.indexAddr t x i)=tO M kE dst rest k J (opX M.P J (.indexAddr t x i)):=by rw[<-uT];rfl
def aAt{t}{x}{i}:xb M kE dst rest k J (.index t x i)=tO M kE dst rest k J (opX M.P J (.index t x i)):=by rw[<-uT];rfl
def axK{t}{x}{i}{b}:xb M kE dst rest k J (.lookup t x i b)=tO M kE dst rest k J (opX M.P J (.lookup t x i b)):=by rw[<-uT];rfl
def aqI{t}{m}{kk}{v}:xb M kE dst rest k J (.mapUpdate t m kk v)=tO M kE dst rest k J (opX M.P J (.mapUpdate t m kk v)):=by rw[<-uT];rfl
def aAu{t}{x}:xb M kE dst rest k J (.range t x)=tO M kE dst rest k J (opX M.P J (.range t x)):=by rw[<-uT];rfl
def aC9{i}{b}:xb M kE dst rest k J (.next i b)=tO M kE dst rest k J (opX M.P J (.next i b)):=by rw[<-uT];rfl
def ao6{x}{t}{u}{b}:xb M kE dst rest k J (.typeAssert x t u b)=tO M kE dst rest k J (opX M.P J (.typeAssert x t u b)):=by rw[<-uT];rfl
def auT{t}{i}:xb M kE dst rest k J (.extract t i)=tO M kE dst rest k J (opX M.P J (.extract t i)):=by rw[<-uT];rfl
def aDa{c}:xb M kE dst rest k J (.call c)=tO M kE dst rest k J (opX M.P J (.call c)):=by rw[<-uT];rfl
def aAv{c:Call}:xb M kE dst rest k J (.defer c)=aEw M kE dst rest k J (Ih J (.defer c)):=rfl
def aAw{x:Operand}:xb M kE dst rest k J (.panic x)=aEx M k J (aa4 J (.panic x)):=rfl
def asO{a:W}{x:Option R}:nX (a=a) x=x:=by simp [nX]
def aDb:alD M p o rest j tr k J none=Av M p o.dst rest j tr k J (opX M.P J o.op):=by rw[<-uT];rfl
end
section
variable {M:kK R} {k:List Kt}
def aDc{x y:Option vF}:tO M kE dst rest k J (bif b then x else y)=bif b then tO M kE dst rest k J x else tO M kE dst rest k J y:=by cases b<;>rfl
def aDd{x y:Option (AV×List j5)}:VO M kE dst rest k J (bif b then x else y)=bif b then VO M kE dst rest k J x else VO M kE dst rest k J y:=by cases b<;>rfl
def aAx{x y:Option vF}:Av M p dst rest j tr k J (bif b then x else y)=bif b then Av M p dst rest j tr k J x else Av M p dst rest j tr k J y:=by cases b<;>rfl
end
def aHL:undef=.tuple #[]:=rfl
def aFK:(¬ True)=False:=by simp
def aDe(n:Nat):(0<=(n:Int))=True:=by simp
def aAy:((0:Int)<=0)=True:=by simp
def aFL{x y:W}:(bif !b then x else y)=bif b then y else x:=by cases b<;>rfl
def aFM{x:W}:(bif b then x else x)=x:=by cases b<;>rfl
def aMo:(b==true)=b:=by cases b<;>rfl
def aMp:(b==false)= !b:=by cases b<;>rfl
def aFN{p:Prop}[Decidable p]{a b:Option W}{f:W->Option O}:(if p then a else b).bind f=bif decide p then a.bind f else b.bind f:=by
 by_cases h:p<;>simp [h]
def aMq(f:W->O)(xs:List W)(i:Nat):(mp f xs)[i]? =eX f xs[i]? :=by rw[p8,eH]
def aMr(f:W->O)(xs:List W)(i:Nat)(x:W):(mp f xs).set i (f x)=mp f (xs.set i x):=by rw[p8,p8,List.map_set]
def aDf {b:Nat}{x:Option R}:nX (room a b) x=bif decide (a*b<=17592186044416)then x else none:=by
 unfold room;exact awj
def aFO{a b:Int}{x:Option R}:nX (a<b) x=bif decide (a<b)then x else none:=awj
theorem aQN(s:kj):(sb s).size=s.length:=by simp [sb,ByteArray.size]
def aHM(s:kj)(i:Nat):(sb s)[i]? =s[i]? :=by
 by_cases h:i<s.length
 ·have h':i<(sb s).size:=by rw[aQN];exact h
  rw[dZ h,getElem?_pos (sb s) i h'];rfl
 grind [aQN]
def aMs(s:kj)(n:Int):aJZ (sb s) n=Mg s n:=by
 simp only[aJZ,aHM];rfl
theorem abi(s:kj):(sb s).toList=s:=by
 rw[ByteArray.toList_eq];rfl
def aDg(s:kj)(a b:Nat):(sb s).extract a b=sb ((s.take b).drop a):=by
 apply ByteArray.ext
 grind [sb,ByteArray.data_extract,List.drop_take]
def aFP(s t:kj):sb s++sb t=sb (s++t):=by
 apply ByteArray.ext;simp [sb]
def aHN:ByteArray.empty=sb []:=rfl
def aFQ:(⟨#[]⟩:ByteArray)=sb []:=rfl
def aMt(l:List UInt8):(⟨l.toArray⟩:ByteArray)=sb l:=rfl
attribute [go_sem] aJt aJu azO axz wy aCq aCr azU axB aL1 aCy axC aCz aFv aCA azW aCB aCC azY azZ aFw azX aCv azR azS azT aCs aFt aCt aCu aHo azP aNQ aL3 aL4 aoZ aCo stP Uh asO arO aL5 aJv aHp aCD az1 aCE aCK aCL aCM aC5 axI aC6 aAn aFJ aAo ao5 axJ aC7 aAp asL aAq aC8 auR ajN asM auS aqF aAr aqG aAs aqH aAt axK aqI aAu aC9 ao6 auT aDa aAv aAw aFy aFz aCF aCG aCH aCI aCJ axA Ih aa4 jS.dfr aAe aCU aCV az4 az5 VM aFB Ig aCN aCO aCP aFA aCQ asz aCR az2 axD az3 aDb az6 az7 az8 aCX az9 aAa aAb aDc aDd aAx sub am1 aso wq aCk ajD aDf aFO
attribute [go_sem low] aCw aFx aCT
attribute [go_sem] aHq aFD ap3 aFE aCZ aFF aC0 nO aJy PU aJw aJx aMq aMr aFN aCY aFG aHr aHs Af dL aJz aJA BD wz tw aHu aFI aJB aJC aJD aJE aJF aJG aL7 aJH aJI dI1 dB1 dS1 aHw aMa aMb Zu ye dC aJJ aJK aJL aJM d2 d3 d4 d5 aJN aJO aJP aJQ aJR aJS aJT aJU l1 aAd nq nP Zv ao2 aHx aC1 pR l6 Bp aPJ aPK aPL aPI dLt aqD aPM aPN aPO aPP aPQ aC2 aJW GQ aEA axH asJ aMg oz aMe aHC aMf aHD ixA ixS ixZ amC amB ada agG axb auE ldA ldV vwL stA opX aFL aFM aMo aMp aQN aMs aHM abi aFP aDg aHN aFQ aMt Mm zB amx Mk arZ ixP aHE aI5 aEg ajy aMi aMj aNT aC4 aAl l2 aAf awq Mh rp1 rpV rpO aPS aPT aPU aPV aPW dL1 dF1 dP aJ4 aJ5 dK1 dK2 dK3 aMl aMm aMn daT dcT aNX aNY aNZ aN0 aJ6 aN1 aN2 aJ7 aN3 aJ8 sZ ao4 aN5 aN6 aJ9 aN7 aKa aN8 aKb aHI aHJ KP ap5 Ah am9 VR Option.or_none Option.none_or aAm aAm.aHK sL pe AV.qo s6 GB adk qG nT lG jS.ev jS.put ni AV.lI Ml ac7 ac8 av0 alr av2 aoF eqB eq1 Cm ajv amA ac9 VD VE ajw av3 PM Uf BC asn frz aqC aHL eF List.all_nil Bool.and_true Bool.true_and Bool.and_false Bool.false_and jM if_false List.getD_cons_zero List.getD_cons_succ eu List.length_nil eb List.cons_append eO List.set_cons_zero List.set_cons_succ reduceCtorEq and_true true_and List.append_nil Nat.zero_add eJ eB List.getElem?_nil ep List.drop_zero List.drop_succ_cons List.drop_nil List.take_succ_cons List.take_zero List.take_nil ne_eq aFK Option.isSome_some Option.isSome_none Option.isNone_some Option.isNone_none eU List.map_nil List.getElem?_toArray Bool.not_true Bool.not_false jE jF Int.toNat_natCast aDe aAy true_or or_true and_self false_or or_false eL List.set_nil decide_true decide_false Bool.not_not and_false false_and List.length_append eM List.length_replicate beq_self_eq_true aCS ue aCp vF.aoT PT CZ Ld List.contains_cons List.contains_nil eI List.isEmpty_cons Bool.or_false Bool.false_or Bool.or_true Bool.true_or eo Bool.false_eq_true Int.cast_ofNat_Int Int.toNat_zero Int.toNat_one List.flatten_cons List.flatten_nil eD eK Option.map_none
def asQ{n:Nat}:∀{a b:List (List AV)},Jv n (a++b)=(Jv n a/\Jv n b)
 |[],_=>by simp [Jv]
 |x::a,b=>by simp [Jv,asQ (a:=a),and_assoc]
def aAz{c:AV}:kr false n (c::cs)=some c:=rfl
def aAA{c:AV}:kr true n (c::cs)=if n<=(c::cs).length then some (.agg ((c::cs).take n))else none:=rfl
def aAB{c:AV}:cellsOf (.agg (c::cs))=if (c::cs).all AV.lI then some (c::cs)else none:=rfl
def aAC:(∀b,cellsOf (.bool b)=some [.bool b])/\(∀k n,cellsOf (.int k n)=some [.int k n])/\(∀s,cellsOf (.str s)=some [.str s])/\(∀t sz r,cellsOf (.kF t sz r)=some [.kF t sz r])/\
 (∀l n,cellsOf (.lR l n)=some [.lR l n])/\(∀a b c d e,cellsOf (.own a b c d e)=some [.own a b c d e])/\(∀a b,cellsOf (.ptr a b)=some [.ptr a b])/\(∀a,cellsOf (.map a)=some [.map a])/\
 (∀cs,cellsOf (.pp cs)=some [.pp cs])/\(∀fn f c,cellsOf (.func fn f c)=some [.func fn f c])/\(∀t x,cellsOf (.iface t x)=some [.iface t x])/\cellsOf (.sV .nilFunc)=some [.sV .nilFunc]/\cellsOf (.sV .nilIface)=some [.sV .nilIface]/\
 (∀a,cellsOf (.sV (.pointer a))=some [.sV (.pointer a)])/\(∀a,cellsOf (.sV (.map a))=some [.sV (.map a)]):=
 ⟨fun _=>rfl,fun _ _=>rfl,fun _=>rfl,fun _ _ _=>rfl,fun _ _=>rfl,fun _ _ _ _ _=>rfl,fun _ _=>rfl,fun _=>rfl,fun _=>rfl,fun _ _ _=>rfl,fun _ _=>rfl,rfl,rfl,fun _=>rfl,fun _=>rfl⟩
def aDh{c:AV}{o:Nat}{xs:List AV}:vq (c::cs) o xs=(c::cs).take o++xs++(c::cs).drop (o+xs.length):=rfl
def aDi {xs:List AV}(h:xs.length=cs.length):vq cs 0 xs=xs:=by
 grind [vq]
attribute [go_sem] aAz aAA aAB aAC aDi
attribute [go_sem low] aDh
attribute [go_sem] AV.nb uc Jv sk asQ
def aOc{c:Prop}[Decidable c]{a:AV}:AV.nb n (if c then a else .any)=(¬ c\/AV.nb n a):=by
 by_cases h:c<;>simp [h,AV.nb]
attribute [go_sem high] aOc
attribute [go_sem] or_true
theorem aFR:∀x:AV,x.nb 0->rp1 l cs x=x
 |.ptr _ _,h=>absurd h (eN _)
 |.any,_|.bool _,_|.int _ _,_|.str _,_|.sV _,_|.agg _,_|.I3 _,_|.kF _ _ _,_|.lR _ _,_|.own _ _ _ _ _,_|.map _,_|.pp _,_|.func _ _ _,_|.iface _ _,_|.sn _ _,_=>rfl
theorem adr{l:Nat}{cs:List AV}:∀xs:List AV,uc 0 xs->xs.map (rp1 l cs)=xs
 |[],_=>rfl
 |x::xs,h=>by rw[eU,aFR x h.1,adr xs h.2]
theorem aFS:∀x:AV,x.nb 0->rpV l cs x=x
 |.ptr _ _,h=>absurd h (eN _)
 |.func _ f c,h=>by simp only[rpV];rw[adr f h.1,adr c h.2]
 |.any,_|.bool _,_|.int _ _,_|.str _,_|.sV _,_|.agg _,_|.I3 _,_|.kF _ _ _,_|.lR _ _,_|.own _ _ _ _ _,_|.map _,_|.pp _,_|.iface _ _,_|.sn _ _,_=>rfl
theorem VS{l:Nat}{cs:List AV}:∀xs:List AV,uc 0 xs->xs.map (rpV l cs)=xs
 |[],_=>rfl
 |x::xs,h=>by rw[eU,aFS x h.1,VS xs h.2]
def asR(P:aRL):Nat->List Field->List AV->List AV->Prop
 |_,[],[],[]=>True
 |o,f::fs,c::cs,d::ds=>(f.name≠ "_" /\f.offset=o/\P.plainKey f.type=true/\(match c,d with
  |.int k _,.int k' _=>k=k'/\∃q,P.underlying f.type=some (.int q)
  |.bool _,.bool _=>P.underlying f.type=some .bool
  |.str _,.str _=>P.underlying f.type=some .string
  |_,_=>False))/\asR P (o+1) fs cs ds
 |_,_,_,_=>False
def akr{P:aRL}{E:CS}{vs us:Array aRK}{w:aRM}{d:Nat}:∀(fs:List Field)(o:Nat)(cs ds:List AV),asR P o fs cs ds->kP E cs (vs.toList.drop o)->kP E ds (us.toList.drop o)->
 (Op.eqFields (d+1) vs us fs).run P w=.ok (eqB cs ds) w
 |[],_,[],[],_,_,_=>by simp [Op.eqFields,eqB]
 |[],_,_::_,_,h,_,_=>h.elim
 |[],_,[],_::_,h,_,_=>h.elim
 |_::_,_,[],_,h,_,_=>h.elim
 |_::_,_,_::_,[],h,_,_=>h.elim
 |f::fs,o,c::cs,e::ds,⟨⟨h1,h2,h3,h4⟩,h5⟩,r1,r2=>by
  obtain⟨u,us',e1,r1,r1'⟩:=r1;obtain⟨v,vs',e2,r2,r2'⟩:=r2
  have g1:vs[f.offset]? =some u:=by
   have:=congrArg (fun l:List aRK=>l[0]?) e1;rw[h2];simpa using this
  have g2:us[f.offset]? =some v:=by
   have:=congrArg (fun l:List aRK=>l[0]?) e2;rw[h2];simpa using this
  have t1:vs.toList.drop (o+1)=us':=by
   have:=congrArg List.tail e1;simpa using this
  have t2:us.toList.drop (o+1)=vs':=by
   have:=congrArg List.tail e2;simpa using this
  have ih:=akr (d:=d) (w:=w) fs (o+1) cs ds h5 (by rw[t1];exact r1') (by rw[t2];exact r2')
  have zr:(Op.equalIn (d+1) f.type u v).run P w=.ok (eq1 c e) w:=by
   cases c<;>cases e<;>try exact h4.elim
   ·cases r1;cases r2;exact run_equalIn_bool _ d f.type _ _ h4
   ·obtain⟨rfl,q,hq⟩:=h4;cases r1;cases r2;exact run_equalIn_int _ d f.type _ q _ _ hq
   ·cases r1;cases r2;exact run_equalIn_string _ d f.type _ _ h4
  simp only[Op.eqFields,h1,ne_eq,not_false_eq_true,jM,Sem.run_bind,run_part_plain w h3 g1,run_part_plain w h3 g2,zr,Result.andThen_ok,eqB];cases eq1 c e
  ·simp
  ·simpa using ih
def aDj{t:TypeId}(ht:P.underlying t=some (.struct (P.fieldsOf t)))(hp:P.stoodInHeld t=false)(hg:P.eqGuardType P.depth t=false)
 (hf:asR P 0 (P.fieldsOf t).toList cs ds):av1 P t cs ds:=by
 intro E vs us w x y h1 h2
 have hq:(Op.equal t (.agg vs) (.agg us)).run P w=.ok (eqB cs ds) w:=by
  show(Op.equalIn (9999+1) t _ _).run P w=_;rw[run_equalIn_struct w 9999 t vs us ht hp];exact akr (d:=9998) _ 0 cs ds hf (by simpa using h1) (by simpa using h2)
 simp_all [eqGuard,binOp]
mutual
theorem ajG{τ τ':Nat->Nat}{n:Nat}(h:∀l,l<n->τ l=τ' l):∀x:AV,x.nb n->x.qo τ=x.qo τ'
 |.agg cs,k|.I3 cs,k|.pp cs,k=>by simp only[AV.qo];rw[Ef h cs k]
 |.kF _ _ rows,k=>by simp only[AV.qo];rw[alH h rows k]
 |.lR l _,k|.own l _ _ _ _,k|.ptr l _,k|.map l,k|.sn _ l,k=>by simp only[AV.qo];rw[h l k]
 |.func _ f c,k=>by simp only[AV.qo];rw[Ef h f k.1,Ef h c k.2]
 |.iface _ x,k=>by simp only[AV.qo];rw[ajG h x k]
 |.any,_|.bool _,_|.int _ _,_|.str _,_|.sV _,_=>rfl
theorem Ef{τ τ':Nat->Nat}{n:Nat}(h:∀l,l<n->τ l=τ' l):∀xs:List AV,uc n xs->s6 τ xs=s6 τ' xs
 |[],_=>rfl
 |x::xs,k=>by simp only[s6];rw[ajG h x k.1,Ef h xs k.2]
theorem alH{τ τ':Nat->Nat}{n:Nat}(h:∀l,l<n->τ l=τ' l):∀xs:List (List AV),Jv n xs->GB τ xs=GB τ' xs
 |[],_=>rfl
 |x::xs,k=>by simp only[GB];rw[Ef h x k.1,alH h xs k.2]
end
mutual
def aHO{τ:Nat->Nat}{n m:Nat}(h:∀l,l<n->τ l<m):∀x:AV,x.nb n->(x.qo τ).nb m
 |.agg cs,k|.I3 cs,k|.pp cs,k=>ads h cs k
 |.kF _ _ rows,k=>aEF h rows k
 |.lR l _,k|.own l _ _ _ _,k|.ptr l _,k|.map l,k|.sn _ l,k=>h l k
 |.func _ f c,k=>⟨ads h f k.1,ads h c k.2⟩
 |.iface _ x,k=>aHO h x k
 |.any,_|.bool _,_|.int _ _,_|.str _,_|.sV _,_=>trivial
def ads{τ:Nat->Nat}{n m:Nat}(h:∀l,l<n->τ l<m):∀xs:List AV,uc n xs->uc m (s6 τ xs)
 |[],_=>trivial
 |x::xs,k=>⟨aHO h x k.1,ads h xs k.2⟩
def aEF{τ:Nat->Nat}{n m:Nat}(h:∀l,l<n->τ l<m):∀xs:List (List AV),Jv n xs->Jv m (GB τ xs)
 |[],_=>trivial
 |x::xs,k=>⟨ads h x k.1,aEF h xs k.2⟩
end
theorem ana {τ':Nat->Nat}(h:∀l,l<n->τ l=τ' l)(x:j5)(k:sk n x):x.qo τ=x.qo τ':=by
 cases x with
 |cells cs=>simp only[j5.qo];rw[Ef h cs k]
 |lR ub sz rows=>simp only[j5.qo];rw[alH h rows k]
 |map es=>
  simp only[j5.qo];congr 1;refine eA fun p hp=>?_
  rw[ajG h _ (k p hp).1,ajG h _ (k p hp).2]
 |loop lk j9 st uA=>simp only[j5.qo];rw[Ef h j9 k]
 |iter s p=>rfl
 |Jw s=>rfl
 |vZ=>rfl
def Co1.adt {y:AV}(h:Co1 [] n x y):OB x y:=by
 rcases h with h|⟨l,m,sz,rows,_,h,_⟩
 ·exact h.1
 ·simp at h
def lO.adt:∀{xs ys:List AV},lO [] n xs ys->qn xs ys
 |[],_,rfl=>qn.nil
 |_::_,_,⟨_,_,rfl,h,hs⟩=>qn.cons h.adt hs.adt
def Co.adt {y:AV}(h:Co [] n x y):OB x y:=by
 rcases h with h|⟨cs,ds,rfl,rfl,h⟩
 ·exact h.adt
 ·rintro E v ⟨vs,rfl,hv⟩;exact⟨vs,rfl,h.adt E _ hv⟩
def qn.func{f:Fn}{xs:List AV}(h:qn xs ys):OB (.func f [] xs) (.func f [] ys):=by
 rintro E v ⟨a,b,rfl,h1,h2⟩;exact⟨a,b,rfl,h1,h E _ h2⟩
abbrev Eg:=Nat->Nat
variable {L:Eg}
def atN(Y:List Nat)(k:Nat):Nat:=Y.getD k 0
def Cov(Y:List Nat)(me n:Nat):Prop:=∀k,k<me->∃l,Y[k]? =some l/\l<n
def Cov.mono {b:Nat}(h:Cov Y b n)(k:a<=b):Cov Y a n:=fun i hi=>h i (by omega)
def Cov.lt(h:Cov Y a n):∀l,l<a->atN Y l<n:=by
 intro l hl;obtain⟨k,hk,hn⟩:=h l hl
 grind [atN]
theorem agZ(h:Y[k]? =some l):atN Y k=l:=by unfold atN;rw[List.getD,h];rfl
section aOd
variable {γ δ:Type}
structure VL(γ:Type) where
 enc:Eg->γ->List AV
 mH:List Nat->Eg->List AV->Option γ
 me:Nat
 nb:∀L g,uc me (enc L g)
 ok:∀Y L vs g,mH Y L vs=some g->qn vs (s6 (atN Y) (enc L g))
def aDk:List AV->Option Unit
 |[]=>some ()
 |_=>none
def vlN:VL Unit where
 enc _ _:=[]
 mH _ _:=aDk
 me:=0
 nb _ _:=trivial
 ok Y L vs g h:=by
  unfold aDk at h;split at h
  ·exact qn.nil
  ·cases h
def aKe(t:Ty γ)(s:VL δ)(Y:List Nat)(L:Eg):List AV->Option (γ×δ)
 |x::xs=>(t.mH [] x).bind fun y=>(s.mH Y L xs).bind fun a=>some (y,a)
 |[]=>none
def vlT(t:Ty γ)(s:VL δ):VL (γ×δ) where
 enc L g:=t.enc g.1::s.enc L g.2
 mH:=aKe t s
 me:=s.me
 nb L g:=⟨t.nb _ _,s.nb L g.2⟩
 ok Y L vs g h:=by
  unfold aKe at h;split at h
  ·simp only[dV,dW]at h;obtain⟨y,hy,a,ha,rfl⟩:=h;refine qn.cons ?_ (s.ok Y L _ _ ha);rw[PS _ _ (t.nb 0 y)];exact(t.ok [] 0 _ _ hy).adt
  ·cases h
def aKf(k:Nat)(s:VL δ)(Y:List Nat)(L:Eg):List AV->Option δ
 |.ptr l off::xs=>bif decide (off=0/\Y[k]? =some l)then s.mH Y L xs else none
 |_=>none
def vlP (k:Nat) (s:VL δ):VL δ where
 enc L g:=.ptr k 0::s.enc L g
 mH:=aKf k s
 me:=max (k+1) s.me
 nb L g:=⟨show k<_ by omega,sy (by omega) _ (s.nb L g)⟩
 ok Y L vs g h:=by
  unfold aKf at h;split at h
  ·rename_i l off xs;cases hc:decide (off=0/\Y[k]? =some l)with
   |false=>simp [hc]at h
   |true=>
    simp only[hc,jE]at h;obtain⟨rfl,hc'⟩:=jI hc;refine qn.cons ?_ (s.ok Y L _ _ h)
    grind [AV.qo,agZ,OB.refl]
  ·cases h
def aKg(k:Nat)(s:VL δ)(Y:List Nat)(L:Eg):List AV->Option δ
 |.map l::xs=>bif decide (Y[k]? =some l)then s.mH Y L xs else none
 |_=>none
def vlM (k:Nat) (s:VL δ):VL δ where
 enc L g:=.map k::s.enc L g
 mH:=aKg k s
 me:=max (k+1) s.me
 nb L g:=⟨show k<_ by omega,sy (by omega) _ (s.nb L g)⟩
 ok Y L vs g h:=by
  unfold aKg at h;split at h
  ·rename_i l xs;cases hc:decide (Y[k]? =some l)with
   |false=>simp [hc]at h
   |true=>
    simp only[hc,jE]at h;have hc:=jI hc;refine qn.cons ?_ (s.ok Y L _ _ h)
    grind [AV.qo,agZ,OB.refl]
  ·cases h
def aKh(f:aRJ)(c:VL γ)(s:VL δ)(Y:List Nat)(L:Eg):List AV->Option (γ×δ)
 |.func (.func f') [] cs::xs=>bif decide (f'=f)then(c.mH Y L cs).bind fun y=>(s.mH Y L xs).bind fun a=>some (y,a)else none
 |_=>none
def vlF (f:aRJ) (c:VL γ) (s:VL δ):VL (γ×δ) where
 enc L g:=.func (.func f) [] (c.enc L g.1)::s.enc L g.2
 mH:=aKh f c s
 me:=max c.me s.me
 nb L g:=⟨⟨trivial,sy (by omega) _ (c.nb L g.1)⟩,sy (by omega) _ (s.nb L g.2)⟩
 ok Y L vs g h:=by
  unfold aKh at h;split at h
  ·rename_i f' cs xs;cases hc:decide (f'=f)with
   |false=>simp [hc]at h
   |true=>
    simp only[hc,jE,dV,dW]at h;obtain⟨y,hy,a,ha,rfl⟩:=h;obtain rfl:=jI hc;refine qn.cons ?_ (s.ok Y L _ _ ha);simp only[AV.qo,s6];exact(c.ok Y L _ _ hy).func
  ·cases h
def aOe:(∀L g,vlN.enc L g=[])/\∀Y L xs,vlN.mH Y L xs=aDk xs:=⟨fun _ _=>rfl,fun _ _ _=>rfl⟩
def aOf{t:Ty γ}{s:VL δ}:(∀L g,(vlT t s).enc L g=t.enc g.1::s.enc L g.2)/\∀Y L xs,(vlT t s).mH Y L xs=aKe t s Y L xs:=⟨fun _ _=>rfl,fun _ _ _=>rfl⟩
def aOg{s:VL δ}:(∀L g,(vlP k s).enc L g=.ptr k 0::s.enc L g)/\∀Y L xs,(vlP k s).mH Y L xs=aKf k s Y L xs:=⟨fun _ _=>rfl,fun _ _ _=>rfl⟩
def aOh{s:VL δ}:(∀L g,(vlM k s).enc L g=.map k::s.enc L g)/\∀Y L xs,(vlM k s).mH Y L xs=aKg k s Y L xs:=⟨fun _ _=>rfl,fun _ _ _=>rfl⟩
def aOi{c:VL γ}{s:VL δ}:(∀L g,(vlF f c s).enc L g=.func (.func f) [] (c.enc L g.1)::s.enc L g.2)/\∀Y L xs,(vlF f c s).mH Y L xs=aKh f c s Y L xs:=⟨fun _ _=>rfl,fun _ _ _=>rfl⟩
structure AL(γ:Type) where
 enc:Eg->γ->List AV
 mH:List Nat->Eg->List j5->List AV->Option γ
 me:Nat
 nb:∀L g,uc me (enc L g)
 ok:∀Y L H n vs g,Cov Y me n->mH Y L H vs=some g->Aq H n vs (s6 (atN Y) (enc L g))
def kJ:AL Unit where
 enc _ _:=[]
 mH _ _ _:=aDk
 me:=0
 nb _ _:=trivial
 ok Y L H n vs g _ h:=by
  unfold aDk at h;split at h
  ·exact Aq.nil
  ·cases h
def aKi(t:Ty γ)(s:AL δ)(Y:List Nat)(L:Eg)(H:List j5):List AV->Option (γ×δ)
 |x::xs=>(t.mH H x).bind fun y=>(s.mH Y L H xs).bind fun a=>some (y,a)
 |[]=>none
def lW(t:Ty γ)(s:AL δ):AL (γ×δ) where
 enc L g:=t.enc g.1::s.enc L g.2
 mH:=aKi t s
 me:=s.me
 nb L g:=⟨t.nb _ _,s.nb L g.2⟩
 ok Y L H n vs g hc h:=by
  unfold aKi at h;split at h
  ·simp only[dV,dW]at h;obtain⟨y,hy,a,ha,rfl⟩:=h;refine Aq.cons ?_ (s.ok Y L H n _ _ hc ha);rw[PS _ _ (t.nb 0 y)];exact t.ok H n _ _ hy
  ·cases h
def aKj(c:QU γ)(k:Nat)(s:AL δ)(Y:List Nat)(L:Eg)(H:List j5)(xs:List AV):Option (γ×δ):=
 (c.mH H (xs.take k)).bind fun y=>(s.mH Y L H (xs.drop k)).bind fun a=>some (y,a)
def lO.aEG:∀{xs ys us vs:List AV},lO H n xs ys->Aq H n us vs->Aq H n (xs++us) (ys++vs)
 |[],_,_,_,rfl,h=>h
 |_::_,_,_,_,⟨y,zs,rfl,h,hs⟩,h2=>⟨y,zs++_,rfl,.inl h,lO.aEG hs h2⟩
def aQO(c:QU γ)(k:Nat)(s:AL δ):AL (γ×δ) where
 enc L g:=c.enc g.1++s.enc L g.2
 mH:=aKj c k s
 me:=s.me
 nb L g:=pz (c.nb _ _) (s.nb L g.2)
 ok Y L H n vs g hc h:=by
  unfold aKj at h;simp only[dV,dW]at h;obtain⟨y,hy,a,ha,rfl⟩:=h;rw[agS,q6 _ _ (c.nb 0 y),<-eR k vs];exact lO.aEG (c.ok H n _ _ hy) (s.ok Y L H n _ _ hc ha)
def aKk(k:Nat)(s:AL δ)(Y:List Nat)(L:Eg)(H:List j5):List AV->Option δ
 |.ptr l off::xs=>bif decide (off=0/\Y[k]? =some l)then s.mH Y L H xs else none
 |_=>none
def lX (k:Nat) (s:AL δ):AL δ where
 enc L g:=.ptr k 0::s.enc L g
 mH:=aKk k s
 me:=max (k+1) s.me
 nb L g:=⟨show k<_ by omega,sy (by omega) _ (s.nb L g)⟩
 ok Y L H n vs g hv h:=by
  unfold aKk at h;split at h
  ·rename_i l off xs;cases hc:decide (off=0/\Y[k]? =some l)with
   |false=>simp [hc]at h
   |true=>
    simp only[hc,jE]at h;obtain⟨rfl,hc'⟩:=jI hc;refine Aq.cons ?_ (s.ok Y L H n _ _ (hv.mono (by omega)) h);have hl:=hv.lt k (by omega);simp only[AV.qo];rw[agZ hc']at hl ⊢;exact Co.same hl
  ·cases h
def aKl(k:Nat)(s:AL δ)(Y:List Nat)(L:Eg)(H:List j5):List AV->Option δ
 |.map l::xs=>bif decide (Y[k]? =some l)then s.mH Y L H xs else none
 |_=>none
def aQP (k:Nat) (s:AL δ):AL δ where
 enc L g:=.map k::s.enc L g
 mH:=aKl k s
 me:=max (k+1) s.me
 nb L g:=⟨show k<_ by omega,sy (by omega) _ (s.nb L g)⟩
 ok Y L H n vs g hv h:=by
  unfold aKl at h;split at h
  ·rename_i l xs;cases hc:decide (Y[k]? =some l)with
   |false=>simp [hc]at h
   |true=>
    simp only[hc,jE]at h;have hc':=jI hc;refine Aq.cons ?_ (s.ok Y L H n _ _ (hv.mono (by omega)) h);have hl:=hv.lt k (by omega);simp only[AV.qo];rw[agZ hc']at hl ⊢;exact Co.same hl
  ·cases h
def aKm(k:Nat)(s:AL δ)(Y:List Nat)(L:Eg)(H:List j5):List AV->Option δ
 |.lR l m::xs=>bif decide (m=L k/\Y[k]? =some l)then s.mH Y L H xs else none
 |_=>none
def alA (k:Nat) (s:AL δ):AL δ where
 enc L g:=.lR k (L k)::s.enc L g
 mH:=aKm k s
 me:=max (k+1) s.me
 nb L g:=⟨show k<_ by omega,sy (by omega) _ (s.nb L g)⟩
 ok Y L H n vs g hv h:=by
  unfold aKm at h;split at h
  ·rename_i l m xs;cases hc:decide (m=L k/\Y[k]? =some l)with
   |false=>simp [hc]at h
   |true=>
    simp only[hc,jE]at h;obtain⟨rfl,hc'⟩:=jI hc;refine Aq.cons ?_ (s.ok Y L H n _ _ (hv.mono (by omega)) h);have hl:=hv.lt k (by omega);simp only[AV.qo];rw[agZ hc']at hl ⊢;exact Co.same hl
  ·cases h
def aKn(f:aRJ)(c:VL γ)(s:AL δ)(Y:List Nat)(L:Eg)(H:List j5):List AV->Option (γ×δ)
 |.func (.func f') [] cs::xs=>bif decide (f'=f)then(c.mH Y L cs).bind fun y=>(s.mH Y L H xs).bind fun a=>some (y,a)else none
 |_=>none
def alF (f:aRJ) (c:VL γ) (s:AL δ):AL (γ×δ) where
 enc L g:=.func (.func f) [] (c.enc L g.1)::s.enc L g.2
 mH:=aKn f c s
 me:=max c.me s.me
 nb L g:=⟨⟨trivial,sy (by omega) _ (c.nb L g.1)⟩,sy (by omega) _ (s.nb L g.2)⟩
 ok Y L H n vs g hv h:=by
  unfold aKn at h;split at h
  ·rename_i f' cs xs;cases hc:decide (f'=f)with
   |false=>simp [hc]at h
   |true=>
    simp only[hc,jE,dV,dW]at h;obtain⟨y,hy,a,ha,rfl⟩:=h;obtain rfl:=jI hc;refine Aq.cons ?_ (s.ok Y L H n _ _ (hv.mono (by omega)) ha);simp only[AV.qo,s6];exact Co.sub (c.ok Y L _ _ hy).func ⟨trivial,ads (hv.mono (a:=c.me) (by omega)).lt _ (c.nb L y)⟩
  ·cases h
def aKo(s:AL δ)(Y:List Nat)(L:Eg)(H:List j5):List AV->Option δ
 |_::xs=>s.mH Y L H xs
 |_=>none
def alZ(s:AL δ):AL δ where
 enc L g:=.any::s.enc L g
 mH:=aKo s
 me:=s.me
 nb L g:=⟨trivial,s.nb L g⟩
 ok Y L H n vs g hv h:=by
  unfold aKo at h;split at h
  ·exact Aq.cons Co.any (s.ok Y L H n _ _ hv h)
  ·cases h
def Cq:Nat->AL δ->AL δ
 |0,s=>s
 |n+1,s=>alZ (Cq n s)
def aOj:(∀L g,kJ.enc L g=[])/\(∀Y L H xs,kJ.mH Y L H xs=aDk xs)/\kJ.me=0:=⟨fun _ _=>rfl,fun _ _ _ _=>rfl,rfl⟩
def aOk{t:Ty γ}{s:AL δ}:(∀L g,(lW t s).enc L g=t.enc g.1::s.enc L g.2)/\(∀Y L H xs,(lW t s).mH Y L H xs=aKi t s Y L H xs)/\(lW t s).me=s.me:=⟨fun _ _=>rfl,fun _ _ _ _=>rfl,rfl⟩
def aOl{c:QU γ}{s:AL δ}:(∀L g,(aQO c k s).enc L g=c.enc g.1++s.enc L g.2)/\(∀Y L H xs,(aQO c k s).mH Y L H xs=aKj c k s Y L H xs)/\(aQO c k s).me=s.me:=⟨fun _ _=>rfl,fun _ _ _ _=>rfl,rfl⟩
def aOm{s:AL δ}:(∀L g,(lX k s).enc L g=.ptr k 0::s.enc L g)/\(∀Y L H xs,(lX k s).mH Y L H xs=aKk k s Y L H xs)/\(lX k s).me=max (k+1) s.me:=⟨fun _ _=>rfl,fun _ _ _ _=>rfl,rfl⟩
def aOn{s:AL δ}:(∀L g,(aQP k s).enc L g=.map k::s.enc L g)/\(∀Y L H xs,(aQP k s).mH Y L H xs=aKl k s Y L H xs)/\(aQP k s).me=max (k+1) s.me:=⟨fun _ _=>rfl,fun _ _ _ _=>rfl,rfl⟩
def aOo{s:AL δ}:(∀L g,(alA k s).enc L g=.lR k (L k)::s.enc L g)/\(∀Y L H xs,(alA k s).mH Y L H xs=aKm k s Y L H xs)/\(alA k s).me=max (k+1) s.me:=⟨fun _ _=>rfl,fun _ _ _ _=>rfl,rfl⟩
def aOp{c:VL γ}{s:AL δ}:(∀L g,(alF f c s).enc L g=.func (.func f) [] (c.enc L g.1)::s.enc L g.2)/\(∀Y L H xs,(alF f c s).mH Y L H xs=aKn f c s Y L H xs)/\(alF f c s).me=max c.me s.me:=⟨fun _ _=>rfl,fun _ _ _ _=>rfl,rfl⟩
def aOq{s:AL δ}:(∀L g,(alZ s).enc L g=.any::s.enc L g)/\(∀Y L H xs,(alZ s).mH Y L H xs=aKo s Y L H xs)/\(alZ s).me=s.me:=⟨fun _ _=>rfl,fun _ _ _ _=>rfl,rfl⟩
end aOd
def Ai(h:n<=m)(x:j5)(k:sk n x):sk m x:=by
 cases x with
 |cells cs=>exact sy h _ k
 |lR ub sz rows=>exact aw9 h _ k
 |map es=>exact fun p hp=>⟨AV.apP h _ (k p hp).1,AV.apP h _ (k p hp).2⟩
 |loop lk j9 st uA=>exact sy h _ k
 |iter s p=>trivial
 |Jw s=>trivial
 |vZ=>trivial
def aDl(hlen:Y.length=Ys.length)(hnd:Y.Nodup)(hid:∀k,k<low->Y[k]? =some k)
 (hl:low<=Ys.length) (GH:uc Ys.length ys) (I7:∀y∈Ys,sk Ys.length y)
 (Sm:∀(i k:Nat)(y:j5),Y[i]? =some k->Ys[i]? =some y->H[k]? =some (y.qo (atN Y))):
 Lb ⟨s6 (atN Y) ys,H,low,[]⟩ ⟨ys,Ys,low,[]⟩:=by
 intro C U a w S
 let U':Nat->aRK:=fun k=>U (atN Y k)
 have hρ:∀k,k<Ys.length->Y[k]? =some (atN Y k):=by
  grind [agZ]
 have n9:∀(k:Nat)(y:j5),Ys[k]? =some y->k<Ys.length/\H[atN Y k]? =some (y.qo (atN Y)):=by
  grind
 have aQG:∀k,k<low->atN Y k=k:=fun k hk=>agZ (hid k hk)
 have hinj:∀k k',k<Ys.length->k'<Ys.length->atN Y k=atN Y k'->k=k':=by
  intro k k' hk PL he;have h1:=hρ k hk;have h2:=hρ k' PL;rw[<-he]at h2;have e1:=amY Y k _ hnd h1
  grind [amY]
 have OC:∀b o,GJ U' Ys b o->GJ U H b o:=by
  rintro b o ⟨k,z,hz,hm⟩;exact⟨_,_,(n9 k z hz).2,aa8.2 hm⟩
 have un:azy Ys.length (atN Y) (C.env U H w) (C.env U' Ys w):=by
  refine⟨eo _,fun k hk=>⟨rfl,?_⟩,fun b o u hm hc=>⟨fun h=>hm (h.imp (OC b o) id),hc⟩,CT _⟩;show mR Ys[k]? =mR H[atN Y k]?
  grind [GM]
 have B1:tv C U' Ys w [] a.defers:=S.defers.aza (fun xs vs ⟨f,hf⟩ _=>(by cases hf)) (fun _ _ _=>rfl) (fun k z b hz hb=>.inl ⟨_,_,(n9 k z hz).2,C0.2 hb⟩);refine⟨U',{j9:=kP.D2 un _ _ GH S.j9,defers:=B1,om:=?_,apart:=?_,uh:=?_,size:=S.size,old:=S.old,n8:=S.n8,Cn:=?_,wZ:=S.wZ,rest:=S.rest,low:=⟨S.low.1,hl⟩,mA:=?_}⟩
 ·intro k z hz;exact oP.D2 un (I7 z (eS hz)) (fun _ _=>rfl) (S.om _ _ (n9 k z hz).2)
 ·intro k k' z z' b hz hz' hb sK;refine hinj k k' (n9 k z hz).1 (n9 k' z' hz').1 (S.apart _ _ _ _ b (n9 k z hz).2 (n9 k' z' hz').2 (C0.2 hb) (C0.2 sK))
 ·intro k z b o hz hb;exact S.uh _ _ b o (n9 k z hz).2 (C0.2 hb)
 ·intro k z b o hz hm hb;exact S.Cn _ _ b o (n9 k z hz).2 (aa8.2 hm) hb
 ·intro k hk;have PL:k<low:=by have:=S.low.1;simp only at this;omega
  have hn:=S.mA k hk
  grind [GM]
section om
variable {γ δ:Type}
structure OG(γ:Type) where
 enc:Eg->γ->j5
 mH:List Nat->Eg->List j5->j5->Option γ
 len:γ->Nat
 me:Nat
 nb:∀L g,sk me (enc L g)
 ok:∀Y L H n x g,Cov Y me n->mH Y L H x=some g->VJ H n x ((enc L g).qo (atN Y))
 ap7:∀Y L H x g,mH Y L H x=some g->len g=(mR (some x)).getD 0
def ap8{W O:Type}{f:W->Option O}:∀{xs:List W}{ys:List O},qQ f xs=some ys->ys.length=xs.length
 |[],ys,h=>by grind [qQ]
 |x::xs,ys,h=>by
  simp only[qQ,dV,dW]at h;obtain⟨y,hy,zs,hz,rfl⟩:=h;simp [ap8 hz]
def ogA(ub:Bool)(r:Row W):OG (List W) where
 enc _ xs:=.lR ub r.sz (mp r.enc xs)
 mH _ _ _:=daT ub r
 len xs:=xs.length
 me:=0
 nb L g:=Aw g
 ok Y L H n x g _ h:=by
  have:=(aQL ub r).ok H n x g h
  grind [aQL]
 ap7 Y L H x g h:=by
  unfold daT at h;split at h
  ·split at h
   ·exact ap8 h
   ·cases h
  ·cases h
def aHP(c:AL γ)(Y:List Nat)(L:Eg)(H:List j5):j5->Option γ
 |.cells cs=>c.mH Y L H cs
 |_=>none
def Bq(c:AL γ):OG γ where
 enc L g:=.cells (c.enc L g)
 mH:=aHP c
 len _:=0
 me:=c.me
 nb L g:=c.nb L g
 ok Y L H n x g hv h:=by
  unfold aHP at h;split at h
  ·exact .inr (.inr (.inl ⟨_,_,rfl,rfl,c.ok Y L H n _ _ hv h⟩))
  ·cases h
 ap7 Y L H x g h:=by
  unfold aHP at h;split at h
  ·rfl
  ·cases h
def aOr{ub:Bool}{r:Row W}:(∀L g,(ogA ub r).enc L g=.lR ub r.sz (mp r.enc g))/\(∀Y L H x,(ogA ub r).mH Y L H x=daT ub r x)/\(∀g,(ogA ub r).len g=g.length)/\(ogA ub r).me=0:=⟨fun _ _=>rfl,fun _ _ _ _=>rfl,fun _=>rfl,rfl⟩
def aOs{c:AL γ}:(∀L g,(Bq c).enc L g=.cells (c.enc L g))/\(∀Y L H x,(Bq c).mH Y L H x=aHP c Y L H x)/\(∀g,(Bq c).len g=0)/\(Bq c).me=c.me:=⟨fun _ _=>rfl,fun _ _ _ _=>rfl,fun _=>rfl,rfl⟩
structure OL(O:Type) where
 enc:Eg->O->List j5
 mH:List Nat->Eg->List j5->List j5->Option O
 mg:O->Eg
 size:Nat
 me:Nat
 sz:∀L b,(enc L b).length=size
 nb:∀L b,∀y∈enc L b,sk me y
 ok:∀Y L H n xs b,Cov Y me n->mH Y L H xs=some b->xs.length=size/\∀(i:Nat)(y:j5),(enc L b)[i]? =some y->∃x,xs[i]? =some x/\VJ H n x (y.qo (atN Y))
 Af:∀Y L H xs b,mH Y L H xs=some b->xs.length=size
 ao7:∀Y L H xs b,mH Y L H xs=some b->∀k,mg b k=(mR xs[k]?).getD 0
def aFT:List j5->Option Unit
 |[]=>some ()
 |_=>none
def Bn:OL Unit where
 enc _ _:=[]
 mH _ _ _:=aFT
 mg _ _:=0
 size:=0
 me:=0
 sz _ _:=rfl
 nb _ _:=by simp
 ok Y L H n xs b _ h:=by
  grind [aFT]
 Af Y L H xs b h:=by
  grind [aFT]
 ao7 Y L H xs b h k:=by
  unfold aFT at h;split at h
  ·rfl
  ·cases h
def aFU(o:OG γ)(s:OL O)(Y:List Nat)(L:Eg)(H:List j5):List j5->Option (γ×O)
 |x::xs=>(o.mH Y L H x).bind fun y=>(s.mH Y L H xs).bind fun b=>some (y,b)
 |[]=>none
def aqJ(a:Nat)(f:Eg):Eg
 |0=>a
 |k+1=>f k
def tz(o:OG γ)(s:OL O):OL (γ×O) where
 enc L b:=o.enc L b.1::s.enc L b.2
 mH:=aFU o s
 mg b:=aqJ (o.len b.1) (s.mg b.2)
 size:=s.size+1
 me:=max o.me s.me
 sz L b:=by rw[eu,s.sz]
 nb L b y hy:=by
  simp only[eG]at hy;rcases hy with rfl|hy
  ·exact Ai (by omega) _ (o.nb L _)
  ·exact Ai (by omega) _ (s.nb L _ y hy)
 ok Y L H n xs b hv h:=by
  unfold aFU at h;split at h
  ·rename_i x xs;simp only[dV,dW]at h;obtain⟨y,hy,b,hb,rfl⟩:=h;obtain⟨h1,h2⟩:=s.ok Y L H n _ _ (hv.mono (by omega)) hb;refine⟨by rw[eu,h1],fun i z hz=>?_⟩;cases i with
   |zero=>simp at hz;subst hz;exact⟨x,by simp,o.ok Y L H n _ _ (hv.mono (by omega)) hy⟩
   |succ i=>grind
  ·cases h
 Af Y L H xs b h:=by
  unfold aFU at h;split at h
  ·simp only[dV,dW]at h;obtain⟨y,hy,b,hb,rfl⟩:=h;rw[eu,s.Af _ _ _ _ _ hb]
  ·cases h
 ao7 Y L H xs b h k:=by
  unfold aFU at h;split at h
  ·simp only[dV,dW]at h;obtain⟨y,hy,b,hb,rfl⟩:=h;cases k with
   |zero=>simp only[aqJ,eJ];exact o.ap7 Y L H _ _ hy
   |succ k=>simp only[aqJ,eB];exact s.ao7 Y L H _ _ hb k
  ·cases h
def aOt:(∀L b,Bn.enc L b=[])/\(∀Y L H xs,Bn.mH Y L H xs=aFT xs)/\(∀b k,Bn.mg b k=0)/\Bn.size=0/\Bn.me=0:=⟨fun _ _=>rfl,fun _ _ _ _=>rfl,fun _ _=>rfl,rfl,rfl⟩
def aOu{o:OG γ}{s:OL O}:(∀L b,(tz o s).enc L b=o.enc L b.1::s.enc L b.2)/\(∀Y L H xs,(tz o s).mH Y L H xs=aFU o s Y L H xs)/\(∀b,(tz o s).mg b=aqJ (o.len b.1) (s.mg b.2))/\(tz o s).size=s.size+1/\(tz o s).me=max o.me s.me:=⟨fun _ _=>rfl,fun _ _ _ _=>rfl,fun _=>rfl,rfl,rfl⟩
end om
inductive XC where
 |arg (i:Nat) (cs:List Nat)
 |vA (k c:Nat) (cs:List Nat)
variable {pos:List XC}
def aHQ:AV->Option Nat
 |.ptr l _=>some l
 |.lR l _=>some l
 |.map l=>some l
 |_=>none
def down:List Nat->AV->Option AV
 |[],v=>some v
 |i::is,.func _ [] cap=>match cap[i]? with
  |some u=>down is u
  |none=>none
 |i::is,.func _ (x::fs) cap=>match (x::(fs++cap))[i]? with
  |some u=>down is u
  |none=>none
 |_::_,_=>none
def axL(c:Nat):Option j5->Option AV
 |some (.cells xs)=>xs[c]?
 |some (.loop _ xs _ _)=>xs[c]?
 |_=>none
def aOv(args:List AV)(H:List j5)(Y:List Nat):XC->Option Nat
 |.arg i cs=>(args[i]?).bind fun v=>(down cs v).bind aHQ
 |.vA k c cs=>(Y[k]?).bind fun l=>(axL c H[l]?).bind fun v=>(down cs v).bind aHQ
def auU(args:List AV)(H:List j5):List XC->List Nat->Option (List Nat)
 |[],Y=>some Y
 |p::ps,Y=>(aOv args H Y p).bind fun l=>auU args H ps (Y++[l])
def asS{args:List AV}{H:List j5}:∀{ps:List XC}{Y Y':List Nat},auU args H ps Y=some Y'->∃ls,Y'=Y++ls
 |[],Y,Y',h=>by simp_all [auU]
 |p::ps,Y,Y',h=>by
  simp only[auU,dV]at h;obtain⟨l,_,h⟩:=h;obtain⟨ls,hl⟩:=asS h
  grind
def anb(xs:List j5)(k:Nat):Nat:=(mR xs[k]?).getD 0
def aHR(hT:agV T){Ug:List AV}{aRh:vu}(hG:FnT P T args Ys (fun o H'=>o=aRh/\H'=Ys'))(hnd:Y.Nodup)(hlen:Y.length=Ys.length)(aAk:Y.length<=Ys'.length)
 (hz:∀U:Nat->aRK,T (U (pe Y J.heap.length 0))=T (U l0))
 (Sm:∀(i k:Nat),Y[i]? =some k->∃x y,J.heap[k]? =some x/\Ys[i]? =some y/\VJ J.heap J.heap.length x (y.qo (pe Y J.heap.length))) (Ye:Aq J.heap J.heap.length Ug (s6 (pe Y J.heap.length) args)):
 Yg P T l0 Ug J (fun o H'=>o=aRh.qo (pe Y J.heap.length)/\H'=xq Y J.heap Ys'):=by
 intro C U a w hP S vs hr
 let H1:=sL J.heap Y (Ys.map (j5.qo (pe Y J.heap.length)))
 have hl1:H1.length=J.heap.length:=xP _ _ _;have S0:nF C U ⟨J.j9++Ug,J.heap,J.low,J.df⟩ {tmps:=a.tmps++vs,defers:=a.defers} w:={S with j9:=by simpa using S.j9.append hr,defers:=S.defers}
 have hat:∀(i k:Nat),Y[i]? =some k->∃x y,J.heap[k]? =some x/\Ys[i]? =some y/\VJ J.heap J.heap.length x (y.qo (pe Y J.heap.length))/\H1[k]? =some (y.qo (pe Y J.heap.length)):=by
  grind [abb]
 have hw:ase ⟨J.j9++Ug,J.heap,J.low,J.df⟩ ⟨J.j9++s6 (pe Y J.heap.length) args,H1,J.low,J.df⟩:=by
  refine⟨⟨⟨rfl,by show J.low<=H1.length;rw[hl1];exact S.low.2⟩,rfl,by show aCb H1.length J.df;rw[hl1];exact QM.nb S.defers.2.2⟩,?_,?_⟩
  ·show Aq J.heap H1.length _ _;rw[hl1];exact Aq.append (Aq.same (kP.nb _ _ S.j9)) Ye
  ·show CoH J.heap H1.length J.heap H1;rw[hl1];refine adq fun k y hy=>?_
   by_cases hk:k∈Y
   ·grind [eE]
   ·have hy2:J.heap[k]? =some y:=by grind [Ii]
    exact⟨y,hy2,.inr (.inl ⟨rfl,aa9 (S.om k y hy2)⟩)⟩
 have S1:=hw.sim S0;have hsl:=S1.j9;simp only[ez]at hsl;have hsz:a.tmps.toList.length=J.j9.length:=S.j9.length;have h1:=hsl.take J.j9.length;have h2:=hsl.drop J.j9.length;rw[ed rfl,ed hsz]at h1;rw[eg rfl,eg hsz]at h2;have S2:nF C U {J with heap:=H1} a w:={S1 with j9:=h1,defers:=S1.defers}
 have xK:Yg P T l0 (s6 (pe Y H1.length) args) {J with heap:=H1} (fun o H'=>o=aRh.qo (pe Y H1.length)/\H'=xq Y J.heap Ys'):=by
  refine amZ (J:={J with heap:=H1}) hT hG Y hlen hnd (by simp_all) (qn.refl _) ?_ ?_
  all_goals grind [xq,Zw]
 rw[hl1]at xK;exact xK C U a w hP S2 vs h2
section GR

def asU(base:List Nat)(pos:List XC)(os:OL O)(aRs:AL W)(PW:OL O')(rs:AL W')(F:O->W->Option (O'×W')):Ent:=fun args H=>
 (auU args H pos base).bind fun Y=>bif KP Y&&(decide (os.me<=Y.length)&&(decide (aRs.me<=Y.length)&&decide (Y.length<=PW.size)))then
   (qQ (ap5 H) Y).bind fun xs=>(os.mH Y (anb xs) H xs).bind fun b=>(aRs.mH Y (anb xs) H args).bind fun a=>(F b a).bind fun r=>
     some ((sZ (rs.enc (PW.mg r.1) r.2)).qo (pe Y H.length),xq Y H (PW.enc (PW.mg r.1) r.1))else none
def GR(pos:List XC)(os:OL O)(aRs:AL W)(PW:OL O')(rs:AL W')(F:O->W->Option (O'×W')):Ent:=asU [] pos os aRs PW rs F
def aAD(pos:List XC)(os:OL O)(aRs:AL W)(PW:OL O')(rs:AL W')(F:O->W->Option (O'×W'))(l:Nat):Ent:=fun args H=>
 match H[l]? with
 |some (.loop k _ _ _)=>nX (args.length=k.ps.size) (asU [l] pos os aRs PW rs F args H)
 |_=>none
def aAE(hT:agV T){os:OL O}{aRs:AL W}{PW:OL O'}{rs:AL W'}{F:O->W->Option (O'×W')}
 (hz:∀(ls:List Nat)(n:Nat)(U:Nat->aRK),T (U (pe (base++ls) n 0))=T (U l0)) (he:asU base pos os aRs PW rs F args J.heap=some (r,H')):
 ∃b a q,F b a=some q/\(FnT P T (aRs.enc (os.mg b) a) (os.enc (os.mg b) b) (fun o H'=>o=.ret (sZ (rs.enc (PW.mg q.1) q.2))/\H'=PW.enc (PW.mg q.1) q.1)->Yg P T l0 args J (fun o F7=>o=.ret r/\F7=H')):=by
 unfold asU at he;simp only[dV]at he;obtain⟨Y,hρ,he⟩:=he;cases hc:(KP Y&&(decide (os.me<=Y.length)&&(decide (aRs.me<=Y.length)&&decide (Y.length<=PW.size))))with
 |false=>simp [hc]at he
 |true=>
  simp only[hc,jE,dV,dW,dX]at he;obtain⟨xs,hxs,b,hb,a,ha,q,hq,rfl,rfl⟩:=he;refine⟨b,a,q,hq,fun hfn=>?_⟩;simp only[dY,jK]at hc;obtain⟨hnd,n1,n2,n3⟩:=hc;obtain⟨h1,h2⟩:=abf hxs
  have aAF:∀m,m<=Y.length->Cov Y m J.heap.length:=by
   intro m hm k hk;have PL:k<Y.length:=by omega
   obtain⟨x,hx,BA⟩:=h2 k _ (dZ PL)
   grind
  have hL:os.mg b=anb xs:=funext fun k=>os.ao7 Y _ _ _ _ hb k
  obtain⟨h3,h4⟩:=os.ok Y _ J.heap J.heap.length _ _ (aAF _ n1) hb;have agQ:∀l,l<Y.length->atN Y l=pe Y J.heap.length l:=fun l hl=>by unfold pe atN;rw[if_pos hl]
  rw[<-hL]at ha h4;obtain⟨ls,hls⟩:=asS hρ;refine aHR hT hfn (Vz hnd) (by rw[h1,h3,os.sz]) (by rw[PW.sz];exact n3) (fun U=>by rw[hls];exact hz ls _ U) ?_ ?_
  ·intro i k hi;obtain⟨x,hx,BA⟩:=h2 i k hi;have sJ:i<(os.enc (os.mg b) b).length:=by rw[os.sz,<-h3,<-h1];grind
   have hy:=dZ sJ;obtain⟨x2,aQK,hcc⟩:=h4 i _ hy;rw[hx]at aQK;cases aQK;refine⟨x,_,BA,hy,?_⟩;rw[<-ana (n:=os.me) (fun l hl=>agQ l (by omega)) _ (os.nb _ _ _ (eS hy))];exact hcc
  ·rw[<-Ef (n:=aRs.me) (fun l hl=>agQ l (by omega)) _ (aRs.nb _ _)];exact aRs.ok Y _ J.heap _ _ _ (aAF _ n2) ha
def mV{os:OL O}{aRs:AL W}{PW:OL O'}{rs:AL W'}{F:O->W->Option (O'×W')}
 (h:∀b a r,F b a=some r->FnG P f (aRs.enc (os.mg b) a) (os.enc (os.mg b) b) (fun o H'=>o=.ret (sZ (rs.enc (PW.mg r.1) r.2))/\H'=PW.enc (PW.mg r.1) r.1)):Uj P f (GR pos os aRs PW rs F):=by
 intro args J r H' he;obtain⟨b,a,q,hq,xK⟩:=aAE (P:=P) (T:=fun _ w vs R=>Calls P f vs w R) (l0:=0) alv (fun _ _ _=>rfl) he;exact⟨(h b a q hq).1,xK (h b a q hq).2⟩
def anc{os:OL O}{aRs:AL W}{PW:OL O'}{rs:AL W'}{F:O->W->Option (O'×W')}
 (h:∀b a r,F b a=some r->FnT P (VG P) (aRs.enc (os.mg b) a) (os.enc (os.mg b) b) (fun o H'=>o=.ret (sZ (rs.enc (PW.mg r.1) r.2))/\H'=PW.enc (PW.mg r.1) r.1)) (he:aAD pos os aRs PW rs F l args J.heap=some (r,H')):PP P l args J (fun o F7=>o=.ret r/\F7=H'):=by
 unfold aAD at he;split at he
 ·rename_i k j9 st uA hk;rw[mX]at he;obtain⟨hlen,he⟩:=he;obtain⟨b,a,q,hq,xK⟩:=aAE (P:=P) (T:=VG P) (l0:=l) azL (fun ls n U=>by simp [pe]) he;exact⟨⟨k,j9,st,uA,hk,hlen⟩,xK (h b a q hq)⟩
 ·cases he
def asV:List (Nat×(Nat->Ent))->Nat->Ent
 |[],_,_,_=>none
 |(l',e)::t,l,args,H=>bif l==l' then e l args H else asV t l args H
def QX:∀(l:Nat)(args:List AV)(J:jS)(r:AV)(H':List j5),asV [] l args J.heap=some (r,H')->PP P l args J (fun o F7=>o=.ret r/\F7=H'):=by
 intro l args J r H' h;cases h
def Mu{l':Nat}{e:Nat->Ent}{t:List (Nat×(Nat->Ent))}(h1:∀(l:Nat)(args:List AV)(J:jS)(r:AV)(H':List j5),e l args J.heap=some (r,H')->PP P l args J (fun o F7=>o=.ret r/\F7=H'))
 (h2:∀(l:Nat)(args:List AV)(J:jS)(r:AV)(H':List j5),asV t l args J.heap=some (r,H')->PP P l args J (fun o F7=>o=.ret r/\F7=H')):
 ∀(l:Nat)(args:List AV)(J:jS)(r:AV)(H':List j5),asV ((l',e)::t) l args J.heap=some (r,H')->PP P l args J (fun o F7=>o=.ret r/\F7=H'):=by
 grind [asV]
end GR
section adk
variable {γ:Type}
def aDm(xs:List AV)(pos:List XC)(base:List Nat)(low:Nat)(os:OL O)(s:AL W)(J:jS):Option (O×W):=
 (auU xs J.heap pos base).bind fun Y=>bif KP Y&&((J.low==low)&&(J.df.isEmpty&&(decide (low<=os.size)&&(decide (os.me<=os.size)&&decide (s.me<=os.size)))))then
   (qQ (ap5 J.heap) Y).bind fun ys=>(os.mH Y (anb ys) J.heap ys).bind fun b=>(s.mH Y (anb ys) J.heap xs).bind fun a=>some (b,a)else none
def w9(P:aRL)(rs:List ResultVar)(pos:List XC)(base:List Nat)(low:Nat)(os:OL O)(s:AL W)(J:jS):Option (O×W):=
 (BC P J rs).bind fun xs=>aDm xs pos base low os s J
def ane{xs:List AV}{os:OL O}{s:AL W}{r:O×W}(amF:base=eT low)(h:aDm xs pos base low os s J=some r):
 J.df=[]/\Lb ⟨xs,J.heap,J.low,[]⟩ ⟨s.enc (os.mg r.1) r.2,os.enc (os.mg r.1) r.1,J.low,[]⟩:=by
 unfold aDm at h;simp only[dV]at h;obtain⟨Y,hρ,h⟩:=h;cases hc:(KP Y&&((J.low==low)&&(J.df.isEmpty&&(decide (low<=os.size)&&(decide (os.me<=os.size)&&decide (s.me<=os.size))))))with
 |false=>simp [hc]at h
 |true=>
  simp only[hc,jE,dV,dW]at h;obtain⟨ys,hys,b,hb,a,ha,rfl⟩:=h;simp only[dY,jK,jL]at hc;obtain⟨hnd,h1,hdf,n1,n2,n3⟩:=hc;refine⟨by simpa using hdf,?_⟩;obtain⟨ls,hls⟩:=asS hρ;obtain⟨g1,g2⟩:=abf hys;have hL:os.mg b=anb ys:=funext fun k=>os.ao7 Y _ _ _ _ hb k
  rw[<-hL]at hb ha
  have aa2:Y.length=os.size:=by
   have:ys.length=os.size:=os.Af _ _ _ _ _ hb;rw[g1,this]
  intro C U a' w S
  have aAF:∀m,m<=Y.length->Cov Y m J.heap.length:=by
   intro m hm k hk;have PL:k<Y.length:=by omega
   obtain⟨x,hx,BA⟩:=g2 k _ (dZ PL)
   grind
  let Ys:=os.enc (os.mg b) b
  have hYl:Ys.length=os.size:=os.sz _ _
  let H1:=sL J.heap Y (Ys.map (j5.qo (atN Y)))
  have hl1:H1.length=J.heap.length:=xP _ _ _;obtain⟨_,h4⟩:=os.ok Y _ J.heap J.heap.length _ _ (aAF _ (by omega)) hb
  have hat:∀(i k:Nat)(y:j5),Y[i]? =some k->Ys[i]? =some y->∃x,J.heap[k]? =some x/\VJ J.heap J.heap.length x (y.qo (atN Y))/\H1[k]? =some (y.qo (atN Y)):=by
   grind [abb,Vz]
  have hw:ase ⟨xs,J.heap,J.low,[]⟩ ⟨s6 (atN Y) (s.enc (os.mg b) a),H1,J.low,[]⟩:=by
   refine⟨⟨⟨rfl,by show J.low<=H1.length;rw[hl1];exact S.low.2⟩,rfl,agR⟩,?_,?_⟩
   ·show Aq J.heap H1.length _ _;rw[hl1];exact s.ok Y _ J.heap _ _ _ (aAF _ (by omega)) ha
   ·show CoH J.heap H1.length J.heap H1;rw[hl1];refine adq fun k y hy=>?_
    by_cases hk:k∈Y
    ·obtain⟨i,hi⟩:=eE hk;have sJ:i<Ys.length:=by grind
     obtain⟨x,hx,hc,hy'⟩:=hat i k _ hi (dZ sJ)
     grind
    ·have hy2:J.heap[k]? =some y:=by grind [Ii]
     exact⟨y,hy2,.inr (.inl ⟨rfl,aa9 (S.om k y hy2)⟩)⟩
  obtain⟨U',S1⟩:=hw.imp C U _ w S;refine aDl (Y:=Y) (Ys:=Ys) (by rw[aa2,hYl]) (Vz hnd) ?_ (by rw[hYl];omega) (sy (by omega) _ (s.nb _ _)) (fun y hy=>Ai (by omega) _ (os.nb _ _ y hy)) ?_ C U' a' w S1
  all_goals grind
def Yj{os:OL O}{s:AL W}{r:O×W}(amF:base=eT low)(h:w9 P rs pos base low os s J=some r):
 J.df=[]/\∃xs,BC P J rs=some xs/\alG ⟨xs,J.heap,J.low,[]⟩ ⟨s.enc (os.mg r.1) r.2,os.enc (os.mg r.1) r.1,J.low,[]⟩:=by
 unfold w9 at h;simp only[dV]at h;obtain⟨xs,hx,h⟩:=h;exact⟨(ane amF h).1,xs,hx,(ane amF h).2.e⟩
end adk
def aDn {b c:Nat}:decide (max a b<=c)=(decide (a<=c)&&decide (b<=c)):=by
 grind
def aHS{xs:List j5}:anb xs k=(mR xs[k]?).getD 0:=rfl
def aHT:(∀i s r,mR (some (.lR i s r))=some r.length)/\(∀c,mR (some (.cells c))=none)/\(∀e,mR (some (.map e))=none)/\mR (some .vZ)=none/\mR none=none:=⟨fun _ _ _=>rfl,fun _=>rfl,fun _=>rfl,rfl,rfl⟩
def aMu{f:Eg}:aqJ a f 0=a/\∀k,aqJ a f (k+1)=f k:=⟨rfl,fun _=>rfl⟩
def aMv{f:Eg}:aqJ a f 1=f 0:=rfl
def aMw{f:Eg}:aqJ a f 2=f 1:=rfl
def aMx{f:Eg}:aqJ a f 3=f 2:=rfl
def aMy{f:Eg}:aqJ a f 4=f 3:=rfl
def aMz{f:Eg}:aqJ a f 5=f 4:=rfl
def aMA{f:Eg}:aqJ a f 6=f 5:=rfl
def aOw:vlN.me=0:=rfl
def aOx{t:Ty W}{s:VL O}:(vlT t s).me=s.me:=rfl
def aOy{s:VL O}:(vlP k s).me=max (k+1) s.me:=rfl
def aOz{s:VL O}:(vlM k s).me=max (k+1) s.me:=rfl
def aOA{c:VL W}{s:VL O}:(vlF f c s).me=max c.me s.me:=rfl
attribute [go_sem] aOw aOx aOy aOz aOA aOe aOf aOg aOh aOi aOj aOk aOl aOm aOn aOo aOp aOq Cq aOr aOs aOt aOu aDk aKe aKf aKg aKh aKi aKj aKk aKl aKm aKn aKo aHP aFT aFU GR w9 auU aOv aHQ down axL aHS aHT Option.getD_some Option.getD_none aMu aMv aMw aMx aMy aMz aMA aDn dW
def stJ(lk:xI)(j:Int):LoopState:=stP (pV lk.js j)
def aHU:stJ lk 0=.ready:=rfl
section ogL
variable {γ:Type}
def aHV(lk:xI)(c:AL γ)(Y:List Nat)(L:Eg)(H:List j5):j5->Option (γ×Int)
 |.loop lk' j9 st j=>nX (lk'=lk/\st=stJ lk j) ((c.mH Y L H j9).bind fun g=>some (g,j))
 |_=>none
def ogL(lk:xI)(c:AL γ):OG (γ×Int) where
 enc L g:=.loop lk (c.enc L g.1) (stJ lk g.2) g.2
 mH:=aHV lk c
 len _:=0
 me:=c.me
 nb L g:=c.nb L g.1
 ok Y L H n x g hv h:=by
  unfold aHV at h;split at h
  ·simp only[mX,dV,dW]at h;obtain⟨⟨rfl,rfl⟩,y,hy,rfl⟩:=h;exact .inr (.inr (.inr (.inr ⟨_,_,_,_,_,rfl,rfl,c.ok Y L H n _ _ hv hy⟩)))
  ·cases h
 ap7 Y L H x g h:=by
  unfold aHV at h;split at h
  ·rfl
  ·cases h
def aAG(lk:xI)(c:AL γ)(Y:List Nat)(L:Eg)(H:List j5):j5->Option γ
 |.loop lk' j9 st j=>bif j==0 then nX (lk'=lk/\st=stJ lk j) (c.mH Y L H j9)else none
 |_=>none
def asW (lk:xI) (c:AL γ):OG γ where
 enc L g:=.loop lk (c.enc L g) .ready 0
 mH:=aAG lk c
 len _:=0
 me:=c.me
 nb L g:=c.nb L g
 ok Y L H n x g hv h:=by
  unfold aAG at h;split at h
  ·rename_i lk' j9 st j;cases hj:j==0 with
   |false=>rw[hj]at h;cases h
   |true=>
    rw[hj,jE]at h;have hj':j=0:=by simpa using hj
    subst hj';simp only[mX]at h;obtain⟨⟨rfl,rfl⟩,hy⟩:=h;exact .inr (.inr (.inr (.inr ⟨_,_,_,_,_,rfl,rfl,c.ok Y L H n _ _ hv hy⟩)))
  ·cases h
 ap7 Y L H x g h:=by
  unfold aAG at h;split at h
  ·rfl
  ·cases h
def aMB{c:AL γ}{j:Int}:aHV lk c Y L H (.loop lk' s st j)=nX (lk'=lk/\st=stJ lk j) ((c.mH Y L H s).bind fun g=>some (g,j)):=rfl
def aKp{c:AL γ}{j:Int}:aAG lk c Y L H (.loop lk' s st j)=bif j==0 then nX (lk'=lk/\st=stJ lk j) (c.mH Y L H s)else none:=rfl
def aOB{c:AL γ}:(∀L g,(ogL lk c).enc L g=.loop lk (c.enc L g.1) (stJ lk g.2) g.2)/\(∀Y L H x,(ogL lk c).mH Y L H x=aHV lk c Y L H x)/\(∀g,(ogL lk c).len g=0)/\(ogL lk c).me=c.me:=⟨fun _ _=>rfl,fun _ _ _ _=>rfl,fun _=>rfl,rfl⟩
def aMC{c:AL γ}:(∀L g,(asW lk c).enc L g=.loop lk (c.enc L g) .ready 0)/\(∀Y L H x,(asW lk c).mH Y L H x=aAG lk c Y L H x)/\(∀g,(asW lk c).len g=0)/\(asW lk c).me=c.me:=⟨fun _ _=>rfl,fun _ _ _ _=>rfl,fun _=>rfl,rfl⟩
end ogL
def Zx:List (Int×aRI)->oo->Int
 |(k,.ret)::_,.ret=>k
 |(k,.exit n)::t,.exit m=>bif n==m then k else Zx t (.exit m)
 |_::t,e=>Zx t e
 |[],_=>0
section VT

def aHW(js:List (Int×aRI))(pos:List XC)(base:List Nat)(low:Nat)(os:OL O)(e:oo)(J:jS):Option j5->Option (O×(Bool×Unit))
 |some (.loop lk sl .busy 0)=>nX (asw e=some (pV lk.js (Zx js e))) (aDm [.bool (pV lk.js (Zx js e)).isNone] pos base low os (lW mw kJ) {J with heap:=J.heap.set 0 (.loop lk sl (stJ lk (Zx js e)) (Zx js e))})
 |_=>none
def VT(js:List (Int×aRI))(pos:List XC)(base:List Nat)(low:Nat)(os:OL O)(e:oo)(J:jS):Option (O×(Bool×Unit)):=aHW js pos base low os e J J.heap[0]?
def aKq{os:OL O}{e:oo}{sl:List AV}:aHW js pos base low os e J (some (.loop lk sl .busy 0))=
 nX (asw e=some (pV lk.js (Zx js e))) (aDm [.bool (pV lk.js (Zx js e)).isNone] pos base low os (lW mw kJ) {J with heap:=J.heap.set 0 (.loop lk sl (stJ lk (Zx js e)) (Zx js e))}):=rfl
def auV(h:Lb ⟨[x],J.heap,J.low,[]⟩ ⟨[r],H',J.low,[]⟩):alw J x r H':=by
 intro C U a w S v hv;obtain⟨U',S'⟩:=h C U {tmps:= #[v],defers:=[]} w {S with j9:=⟨v,[],rfl,hv,rfl⟩,defers:=tv.nil};obtain⟨v',_,e,hr,_⟩:=S'.j9;simp only[eD]at e;obtain⟨rfl,_⟩:=e;exact⟨U',{S' with j9:=rfl,defers:=tv.nil},hr⟩
def ag0{os:OL O}{e:oo}{r:O×(Bool×Unit)}(amF:base=eT low)(h:VT js pos base low os e J=some r):
 aEu (fun o H'=>o=.ret (sZ ((lW mw kJ).enc (os.mg r.1) r.2))/\H'=os.enc (os.mg r.1) r.1) e J:=by
 unfold VT aHW at h;split at h
 ·rename_i lk sl hk;simp only[mX]at h;obtain⟨hj,h⟩:=h;have:=ane amF h;exact⟨_,lk,sl,hj,hk,_,_,auV (J:={J with heap:=J.heap.set 0 (.loop lk sl (stJ lk (Zx js e)) (Zx js e))}) this.2,rfl,rfl⟩
 ·cases h
end VT
section yA
variable {M:kK R} {k:List Kt}
def aHX{j:Int}:asx M k J H' (some (.loop lk s (stJ lk j) j))=akq M k {J with heap:=H'.set J.heap.length .vZ} (pV lk.js j):=by
 rw[azQ];exact asO
end yA
def aHY{j:Int}:(j5.loop lk s st j).qo τ=.loop lk (s6 τ s) st j:=rfl
def aHZ{j:Int}:mR (some (.loop lk s st j))=none:=rfl
def aH0{c:Nat}:(∀xs,axL c (some (.cells xs))=xs[c]?)/\(∀lk xs st j,axL c (some (.loop lk xs st j))=xs[c]?):=⟨fun _=>rfl,fun _ _ _ _=>rfl⟩
def aKr:asw .normal=some none/\asw .ret=some (some .ret)/\∀id,asw (.exit id)=some (some (.exit id)):=⟨rfl,rfl,fun _=>rfl⟩
def aMD:(∀k t,Zx ((k,.ret)::t) .ret=k)/\(∀k n t,Zx ((k,.exit n)::t) .ret=Zx t .ret)/\(∀k t m,Zx ((k,.ret)::t) (.exit m)=Zx t (.exit m))/\(∀k n t m,Zx ((k,.exit n)::t) (.exit m)=bif n==m then k else Zx t (.exit m))/\
 (∀js,Zx js .normal=0)/\(∀e,Zx [] e=0):=
 ⟨fun _ _=>rfl,fun _ _ _=>rfl,fun _ _ _=>rfl,fun _ _ _ _=>rfl,fun js=>by induction js with|nil=>rfl|cons x t ih=>obtain⟨k,c⟩:=x;cases c<;>exact ih,fun _=>rfl⟩
def aLz(pos:List XC)(os:OL O)(aRs:AL W)(PW:OL O')(rs:AL W')(F:O->W->Option (O'×W'))(l:Nat)(args:List AV)(H:List j5):Option j5->Option (AV×List j5)
 |some (.loop k _ _ _)=>nX (args.length=k.ps.size) (asU [l] pos os aRs PW rs F args H)
 |_=>none
def aME{os:OL O}{aRs:AL W}{PW:OL O'}{rs:AL W'}:
 aAD pos os aRs PW rs F l args H=aLz pos os aRs PW rs F l args H H[l]? :=rfl
def aKs{os:OL O}{aRs:AL W}{PW:OL O'}{rs:AL W'}{k:xI}{j:Int}:
 aLz pos os aRs PW rs F l args H (some (.loop k s st j))=nX (args.length=k.ps.size) (asU [l] pos os aRs PW rs F args H):=rfl
def Uk:aRI->aRI
 |.rangeFunc _ _ a _=>a
 |_=>.skip
def ajO:aRI->aRI
 |.rangeFunc _ _ _ b=>b
 |_=>.skip
attribute [go_sem] Uk ajO
def aFV:List (List Nat×List (Int×aRI))->List Nat->List (Int×aRI)
 |[],_=>[]
 |(p',js)::t,p=>if p=p' then js else aFV t p
def aKt:(LoopState.ready=stJ lk 0)=True:=by simp [aHU]
def oLf(zs:List NZ)(H:List j5)(n:Nat):j5->Option j5
 |.loop lk s st j=>nX (st=stJ lk j) ((aqD zs H n s).bind fun ds=>some (.loop lk ds (stJ lk j) j))
 |_=>none
def oL(zs:List NZ):ZO:=⟨oLf zs,fun H n x y h=>by
 unfold oLf at h;split at h
 ·simp only[mX,dV,dW]at h;obtain⟨rfl,ds,hd,rfl⟩:=h;exact .inr (.inr (.inr (.inr ⟨_,_,_,_,_,rfl,rfl,arQ hd⟩)))
 ·cases h⟩
def aP0{j:Int}:(oL zs).f H n (.loop lk s st j)=nX (st=stJ lk j) ((aqD zs H n s).bind fun ds=>some (.loop lk ds (stJ lk j) j)):=rfl
attribute [go_sem] aKt aP0 aOB aMC aMB aKp VT aKq aDm asU aHX aHY aHZ aH0 aKr aMD aME aKs asV
def GI(p:kj×Bool):AV×AV:=(.str (sb p.1),.bool p.2)
def Fx{W:Type}(s:kj):List (kj×W)->Option W
 |[]=>none
 |(k,v)::es=>bif s==k then some v else Fx s es
def aeX{W:Type}(s:kj)(v:W):List (kj×W)->List (kj×W)
 |[]=>[(s,v)]
 |(k,u)::es=>bif s==k then(k,v)::es else(k,u)::aeX s v es
theorem axM(a b:kj):(sb a==sb b)=(a==b):=by
 grind [MapKept.bytes_beq,abi]
def asX:∀xs:List (kj×Bool),Sj (xs.map GI)=true
 |[]=>rfl
 |_::xs=>asX xs
theorem aws(xs:List (kj×Bool)):Sj (mp GI xs)=true:=by rw[p8];exact asX xs
theorem ap9(s:kj):∀xs:List (kj×Bool),zn (sb s) (xs.map GI)=(Fx s xs).map AV.bool
 |[]=>rfl
 |(k,v)::xs=>by
  show(bif sb s==sb k then some (AV.bool v)else zn (sb s) (xs.map GI))=_;rw[axM,ap9 s xs]
  grind [Fx]
theorem aDo(s:kj)(xs:List (kj×Bool)):zn (sb s) (mp GI xs)=(Fx s xs).map AV.bool:=by rw[p8];exact ap9 s xs
theorem asY(s:kj)(v:Bool):∀xs:List (kj×Bool),PO (sb s) (.bool v) (xs.map GI)=(aeX s v xs).map GI
 |[]=>rfl
 |(k,u)::xs=>by
  show(bif sb s==sb k then(AV.str (sb k),AV.bool v)::xs.map GI else(AV.str (sb k),AV.bool u)::PO (sb s) (.bool v) (xs.map GI))=_;rw[axM,asY s v xs];simp only[aeX];cases s==k<;>rfl
theorem aFW(s:kj)(v:Bool)(xs:List (kj×Bool)):PO (sb s) (.bool v) (mp GI xs)=mp GI (aeX s v xs):=by grind [p8,asY]
def aAH(o:Option Bool)(z:Bool):(o.map AV.bool).getD (.bool z)=.bool (o.getD z):=by cases o<;>rfl
def aDp:j5.map []=.map (mp GI []):=by rw[p8];rfl
def aDq{z:AV}{s:kj}:ajx z l (sb s) (some (.map (mp GI xs)))=some {val:=((Fx s xs).map AV.bool).getD z,rd:=[l]}:=by
 grind [ajx,aws,aDo]
def aAI{s:kj}{v:Bool}:CV l (sb s) (.bool v) (some (.map (mp GI xs)))=some {val:=.any,rd:=[l],up:=[(l,.map (mp GI (aeX s v xs)))]}:=by
 grind [CV,aws,aFW]
def anf(n:Nat)(xs:List (kj×Bool)):sk n (.map (mp GI xs))=True:=by
 refine eq_true fun p hp=>?_
 rw[p8,List.mem_map]at hp;obtain⟨q,_,rfl⟩:=hp;exact⟨trivial,trivial⟩
def aFX(Y:Nat->Nat)(xs:List (kj×Bool)):(mp GI xs).map (fun p=>(AV.qo Y p.1,AV.qo Y p.2))=mp GI xs:=by
 rw[p8,eV];exact eA fun _ _=>rfl
def aFY(n:Nat)(xs:List (kj×Bool)):(∀p:AV×AV,p∈mp GI xs->AV.nb n p.1/\AV.nb n p.2)=True:=anf n xs
attribute [go_sem high] aFX aFY
def ddB:AV×AV->Option (kj×Bool)
 |(.str s,.bool b)=>some (s.toList,b)
 |_=>none
theorem aMF{p:AV×AV}{q:kj×Bool}(h:ddB p=some q):p=GI q:=by
 unfold ddB at h;split at h
 ·rename_i s b;simp only[dW]at h;subst h;simp only[GI,dX,AV.str.injEq,and_true];obtain⟨⟨l⟩⟩:=s;rw[ByteArray.toList_eq];rfl
 ·cases h
theorem awt:∀{es:List (AV×AV)}{xs:List (kj×Bool)},qQ ddB es=some xs->es=xs.map GI
 |[],xs,h=>by grind [qQ]
 |p::es,xs,h=>by
  simp only[qQ,dV,dW]at h;obtain⟨q,hq,ys,hys,rfl⟩:=h;rw[aMF hq,awt hys];rfl
theorem aH1{es:List (AV×AV)}(h:qQ ddB es=some xs):es=mp GI xs:=by rw[p8];exact awt h
theorem aEH(τ:Nat->Nat)(xs:List (kj×Bool)):(j5.map (mp GI xs)).qo τ=.map (mp GI xs):=by
 rw[p8];show j5.map ((xs.map GI).map _)=_;congr 1;rw[eV];exact eA fun p _=>by obtain⟨s,b⟩:=p;rfl
def daM:j5->Option (List (kj×Bool))
 |.map es=>qQ ddB es
 |_=>none
def aMG:daM (.map (mp GI xs))=some xs:=by
 show qQ ddB (mp GI xs)=some xs;exact yz (fun x=>by obtain⟨s,b⟩:=x;show some ((sb s).toList,b)=_;rw[abi]) xs
theorem aH2{x:j5}(h:daM x=some xs):x=.map (mp GI xs):=by
 unfold daM at h
 grind [aH1]
def ogM:OG (List (kj×Bool)) where
 enc _ xs:=.map (mp GI xs)
 mH _ _ _:=daM
 len _:=0
 me:=0
 nb L g:=of_eq_true (anf 0 g)
 ok Y L H n x g _ h:=by
  rw[aH2 h];rw[aEH];exact .inr (.inl ⟨rfl,of_eq_true (anf n g)⟩)
 ap7 Y L H x g h:=by
  rw[aH2 h];rfl
def aOC:(∀L g,ogM.enc L g=.map (mp GI g))/\(∀Y L H x,ogM.mH Y L H x=daM x)/\(∀g,ogM.len g=0)/\ogM.me=0:=⟨fun _ _=>rfl,fun _ _ _ _=>rfl,fun _=>rfl,rfl⟩
def gAt:List (List Nat×List (Nat×Nat×Nat))->List Nat->jS->jS
 |[],_,J=>J
 |(q,g)::t,p,J=>if p=q then asJ g J else gAt t p J
def aH3:∀{t:List (List Nat×List (Nat×Nat×Nat))}{p:List Nat}{J:jS},Lb J (gAt t p J)
 |[],_,_=>Lb.refl _
 |(q,g)::t,p,J=>by
  unfold gAt;split
  ·exact ao3
  ·exact aH3
def aKu(fs:List (List Nat×List Nat))(gs:List (List Nat×List (Nat×Nat×Nat)))(p:List Nat)(J:jS):Option jS:=(Mh fs p J).map (gAt gs p)
def aKv(fs:List (List Nat×List Nat))(gs:List (List Nat×List (Nat×Nat×Nat))):∀p J J',aKu fs gs p J=some J'->Lb J J':=by
 intro p J J' h;simp only[aKu,eP]at h;obtain⟨J1,h1,rfl⟩:=h;exact(pI _ _ _ _ h1).trans aH3
attribute [go_sem] gAt aKu aDq aAI aAH aDp aMG aOC aEH
attribute [go_sem high] anf
def yB(W:Type):Nat->Type
 |0=>Unit
 |n+1=>W×yB W n
section I3

def Eh:(n:Nat)->yB W n->List W
 |0,_=>[]
 |n+1,x=>x.1::Eh n x.2
def s7(c:W->List AV):(n:Nat)->yB W n->List AV
 |0,_=>[]
 |n+1,x=>c x.1++s7 c n x.2
def Zy(d:List AV->Option W)(sz:Nat):(n:Nat)->List AV->Option (yB W n)
 |0,cs=>if cs.isEmpty=true then some ()else none
 |n+1,cs=>(d (cs.take sz)).bind fun x=>(Zy d sz n (cs.drop sz)).bind fun t=>some (x,t)
theorem asZ{c:W->List AV}{sz:Nat}(h:∀x,(c x).length=sz):∀(n:Nat)(v:yB W n),(s7 c n v).length=n*sz
 |0,_=>by simp [s7]
 |n+1,v=>by rw[s7,List.length_append,h,asZ h n v.2,Nat.succ_mul,Nat.add_comm]
def as0{c:W->List AV}{d:List AV->Option W}{sz:Nat}(h:∀x,(c x).length=sz)(hd:∀x,d (c x)=some x):∀(n:Nat)(v:yB W n),Zy d sz n (s7 c n v)=some v
 |0,_=>rfl
 |n+1,v=>by
  have h1:(s7 c (n+1) v).take sz=c v.1:=by grind [s7]
  have h2:(s7 c (n+1) v).drop sz=s7 c n v.2:=by grind [s7]
  simp only[Zy,h1,h2,hd,as0 h hd n v.2,ep];rfl
theorem alI{c:W->List AV}{sz:Nat}(h:∀x,(c x).length=sz)(hz:0<sz):∀(n i:Nat)(v:yB W n),VF sz i (s7 c n v)=((Eh n v)[i]?).map c
 |0,0,_=>by
  grind [VF,s7,Eh]
 |0,i+1,v=>by
  have:=alI h hz 0 i v
  grind [s7,Eh,VF]
 |n+1,0,v=>by
  grind [VF,Eh,s7]
 |n+1,i+1,v=>by
  simp only[VF,s7,Eh,eB];rw[<-alI h hz n i v.2,<-h v.1,List.drop_left]
def awu{c:W->List AV}(h:∀n x,uc n (c x))(k:Nat):∀(n:Nat)(v:yB W n),uc k (s7 c n v)
 |0,_=>trivial
 |n+1,v=>pz (h k v.1) (awu h k n v.2)
theorem aEI{c:W->List AV}(h:∀x,(c x).all AV.lI=true):∀(n:Nat)(v:yB W n),(s7 c n v).all AV.lI=true
 |0,_=>rfl
 |n+1,v=>by rw[s7,List.all_append,h,aEI h n v.2];rfl
def aH4{c:W->List AV}(h:∀x,(c x).all AV.lI=true)(n:Nat)(v:yB W n):cellsOf (.agg (s7 c n v))=some (s7 c n v):=by
 grind [cellsOf,aEI]
def aLA{c:QU W}{H:List j5}{m sz:Nat}:∀{n:Nat}{cs:List AV}{v:yB W n},Zy (c.mH H) sz n cs=some v->lO H m cs (s7 c.enc n v)
 |0,cs,v,h=>by
  simp only[Zy]at h;split at h
  ·rename_i he;rw[List.isEmpty_iff]at he;subst he;exact lO.nil
  ·cases h
 |n+1,cs,v,h=>by
  simp only[Zy,dV]at h;obtain⟨x,hx,t,ht,he⟩:=h;obtain rfl:(x,t)=v:=Option.some.inj he;have:=lO.append (c.ok H m _ _ hx) (aLA (c:=c) (m:=m) ht);rw[eR]at this;exact this
def cA(c:QU W)(sz n:Nat):QU (yB W n) where
 enc v:=s7 c.enc n v
 mH H cs:=Zy (c.mH H) sz n cs
 ok H m cs v h:=aLA h
 nb k v:=awu c.nb k n v
def aP1{c:QU W}{sz:Nat}:(∀v,(cA c sz n).enc v=s7 c.enc n v)/\∀H cs,(cA c sz n).mH H cs=Zy (c.mH H) sz n cs:=⟨fun _=>rfl,fun _ _=>rfl⟩
end I3
attribute [go_sem] aP1
def ag1(xs:List kj):List AV:=[.kF false 1 (mp kX xs)]
def aDr:List AV->Option (List kj)
 |[c]=>dL kW [] c
 |_=>none
def aFZ(n:Nat)(xs:List kj):Jv n (mp kX xs):=Aw (r:=kW) xs
def aAJ:Row (List kj) where
 enc:=ag1
 mH:=aDr
 sz:=1
 ok r x h:=by
  unfold aDr at h;split at h
  ·exact vH.cons (Co1.nG (n:=0) (wh h)) vH.nil
  ·cases h
 nb n x:=⟨aFZ n x,trivial⟩
def aKw:aAJ.enc=ag1/\aAJ.mH=aDr/\aAJ.sz=1:=⟨rfl,rfl,rfl⟩
def aF0(x:List kj):aDr (ag1 x)=some x:=by
 simp only[aDr,ag1,dL,Af,Zu,beq_self_eq_true,Bool.true_or,jE,ye]
def aKx(xs:List (List kj)):qQ aDr (mp ag1 xs)=some xs:=yz aF0 xs
attribute [go_sem] ag1 aDr aKw aKx
theorem axN(s:kj):(sb s).data.toList=s:=by simp [sb]
def aDs {b:Nat}:∀{xs:List kj}{j:Nat}{x:kj},ol E 1 b off (mp kW.enc xs)->xs[j]? =some x->E.w.cell? ⟨b,off+j,none⟩=some (.string (sb x)):=by
 intro xs j x h hj;have hg:(mp kW.enc xs)[j]? =some (kW.enc x):=by rw[p8,eH,hj];rfl
 obtain⟨_,hm⟩:=h.get hg;have hm':oV E b (off+j*1) [.str (sb x)]:=hm;obtain⟨⟨_,u,hu,_,hr⟩,_⟩:=hm';have hr':u=.string (sb x):=hr;rw[Nat.mul_one]at hu;rw[hu,hr']
def aH5(he:xE P f=true)
 (h0:∀(a:Option Addr)(c:Nat)(sep:ByteArray)(w:aRM),Calls P f #[.slice a 0 c,.string sep] w fun e w'=>e=.returned (.string ⟨#[]⟩)/\w'=w)
 (h1:∀(bk o c:Nat)(xs:List ByteArray)(sep:ByteArray)(w:aRM),(∀(j:Nat) x,xs[j]? =some x->w.cell? ⟨bk,o+j,none⟩=some (.string x))->bk<w.heap.size->xs.length<=140737488355328->xs.length<=c->(Lib.join (xs.map (·.data.toList)) sep.data.toList).length<=140737488355328->
   Calls P f #[.slice (some ⟨bk,o,none⟩) xs.length c,.string sep] w fun e w'=>e=.returned (.string ⟨(Lib.join (xs.map (·.data.toList)) sep.data.toList).toArray⟩)/\RowKit.Below w.heap.size w w')
 (xs:List kj) (sep:kj) (hlen:(Lib.join xs sep).length<=140737488355328) (hN:xs.length<=140737488355328):
 I5 P f [(lA kW).enc xs,mo.enc sep] (fun v=>v=mo.enc (Lib.join xs sep)):=by
 refine⟨he,⟨(lA kW).nb 0 _,mo.nb 0 _,trivial⟩,fun C U w hP hw hN0 hM vs hr=>?_⟩;obtain⟨v0,us,hvs,r0,v1,us1,hus,r1,alu⟩:=hr;obtain⟨base,cap,rfl,Cp,_,hno,aqa,OK⟩:=r0;have hv1:v1=.string (sb sep):=r1;have aOD:us1=[]:=alu;subst hv1 hus aOD;have hl:(mp kW.enc xs).length=xs.length:=PU _ _;rw[hl]at hvs Cp;obtain rfl:vs= #[.slice base xs.length cap,.string (sb sep)]:=by cases vs;simp_all
 have empty:xs=[]->Calls P f #[.slice base xs.length cap,.string (sb sep)] w fun e w'=>∃r v U',(r=mo.enc (Lib.join xs sep))/\e=.returned v/\pm (C.env U' [] w') r v/\w.heap.size<=w'.heap.size/\(∀b,b<w.heap.size->w'.heap[b]? =w.heap[b]?)/\
  (∀x,x.block<w.heap.size->w'.frozen? x=w.frozen? x)/\w'.output=w.output/\w'.os=w.os:=by
  rintro rfl;refine(h0 base cap (sb sep) w).mono ?_;rintro e w' ⟨rfl,rfl⟩;exact⟨_,_,U,rfl,rfl,rfl,eo _,fun _ _=>rfl,fun _ _=>rfl,rfl,rfl⟩
 cases base with
 |none=>
  refine empty ?_;have:=hno rfl;exact ey (by omega)
 |some a=>
  cases hx:xs with
  |nil=>rw[<-hx];exact empty hx
  |cons x0 xr=>
   rw[<-hx];have sv:mp kW.enc xs≠[]:=by intro h;rw[h]at hl;rw[hx]at hl;simp at hl
   have hs:=aqa a rfl sv;obtain⟨bk,o,sp⟩:=a;simp only at hs;subst hs;have hR:ol (C.env U [] w) 1 bk o (mp kW.enc xs):=OK _ rfl
   have hc:∀(j:Nat)(x:ByteArray),(xs.map sb)[j]? =some x->w.cell? ⟨bk,o+j,none⟩=some (.string x):=by
    intro j x hj;rw[eH,eP]at hj;obtain⟨y,hy,rfl⟩:=hj;exact aDs hR hy
   have hb:bk<w.heap.size:=F6 (hc 0 (sb x0) (by rw[hx];rfl))
   have aB0:(xs.map sb).map (·.data.toList)=xs:=by
    rw[eV];have:((fun b:ByteArray=>b.data.toList) ∘ sb)=id:=by funext s;exact axN s
    rw[this,List.map_id]
   have aAk:(xs.map sb).length=xs.length:=eL _;have:=h1 bk o cap (xs.map sb) (sb sep) w hc hb (by rw[aAk];exact hN) (by rw[aAk];exact Cp) (by rw[aB0,axN];exact hlen);rw[aB0,axN,aAk]at this;refine this.mono ?_;rintro e w' ⟨rfl,hB⟩;exact⟨_,_,U,rfl,rfl,rfl,hB.size,hB.block,fun x hx=>hB.frozen hx,hB.output,hB.os⟩
section aP2
variable {a:Act}
def vwN(H:List j5):List AV->Option (List AV)
 |[]=>some []
 |.agg cs::r=>(vwL H cs).bind fun p=>(vwN H r).bind fun q=>some (.agg p.1::q)
 |c::r=>(vwL H [c]).bind fun p=>(vwN H r).bind fun q=>some (p.1++q)
def aMH(l:Nat):AV->AV
 |.int k n=>.int k n
 |.bool b=>.bool b
 |.str s=>.str s
 |.kF _ _ _=>.lR l 0
 |_=>.any
def aMI(l:Nat):AV->AV
 |.agg cs=>.agg (cs.map (aMH l))
 |x=>aMH l x
def num(l:Nat):AV->AV
 |.I3 cs=>.I3 (cs.map (aMI l))
 |x=>aMI l x
section
variable {E':CS}
end
end aP2
def aH6{x:Option R}:nX False x=none:=by simp [nX]
theorem aEJ{n:Nat}{r:List AV}:∀{rows:List (List AV)}{i:Nat},Jv n rows->Jv n (rows.set i r)=(rows.length<=i\/uc n r)
 |[],_,_=>eq_true trivial|>.trans (eq_true (.inl (eC _))).symm
 |_::_,0,h=>by
  grind [Jv]
 |_::rows,i+1,h=>by
  show(uc n _/\Jv n (rows.set i r))=_;rw[aEJ (rows:=rows) (i:=i) h.2];exact propext ⟨fun q=>q.2.imp Nat.succ_le_succ id,fun q=>⟨h.1,q.imp Nat.le_of_succ_le_succ id⟩⟩
def aDt {S:Type}{p:Prop}{x:Option R}{f:R->Option S}:(nX p x).bind f=nX p (x.bind f):=by
 unfold nX;split<;>rfl
def aH7{xs:List W}{r:W}{n:Int}{f:W->Option O}:(Mg (xs.set n.toNat r) n).bind f=bif decide (0<=n)&&decide (n.toNat<xs.length)then f r else none:=by
 grind [Mg]
def aKy{xs:List W}{r:W}{f:W->Option O}:((xs.set i r)[i]?).bind f=bif decide (i<xs.length)then f r else none:=by
 grind
def aDu{e e':Ent}(h:VP P f (pR e))(h':VP P f (pR e')):VP P f (pR (VR e e')):=by
 intro args r he;unfold pR at he;obtain⟨hn,he⟩:=mX.1 he;rw[dV]at he;obtain⟨q,hq,he⟩:=he;unfold VR at hq;rw[eQ]at hq;rcases hq with hq|⟨_,hq⟩
 ·exact h args r (mX.2 ⟨hn,by rw[hq];exact he⟩)
 ·exact h' args r (mX.2 ⟨hn,by rw[hq];exact he⟩)
def aAK(n:Nat)(xs:List kj)(i:Nat)(r:List AV):Jv n ((mp kX xs).set i r)=(xs.length<=i\/uc n r):=by
 rw[aEJ (rows:=mp kX xs) (Aw (r:=kW) xs),PU]
def aOE(n:Int):kj:=(Utf8.encode n).data.toList
def aF1(n:Int):Utf8.encode n=sb (aOE n):=(axE _).symm
def axO{x y:Option W}{g:W->O}:(x.bind fun r=>some (g r)).or (y.bind fun r=>some (g r))=(x.or y).bind fun r=>some (g r):=by cases x<;>rfl
def aKz(r:Row W):AV->Option (List W)
 |.kF true sz rows=>bif Af sz r.sz rows then qQ r.mH rows else none
 |_=>none
def auW {sz:Nat}(h:Af sz k rows=true)(hs:Sn rows xJ):OB (.kF true sz rows) (.kF true k xJ):=by
 intro E v r;obtain⟨base,cap,h1,h2,_,h4,h5,h6⟩:=ado (t:=true) h hs E v r;obtain⟨aNC,aND,h1',_,h3',_⟩:=r;have e:=h1.symm.trans h1';simp only[Value.slice.injEq]at e;obtain⟨rfl,_,rfl⟩:=e;exact⟨base,cap,h1,h2,fun _=>by rw[h3' rfl,hs.1],h4,h5,h6⟩
def aMJ (r:Row W):Ty (List W) where
 enc xs:=.kF true r.sz (mp r.enc xs)
 mH _:=aKz r
 ok H n v xs h:=by
  unfold aKz at h;split at h
  ·rename_i sz rows;cases hs:Af sz r.sz rows with
   |false=>rw[hs]at h;cases h
   |true=>
    rw[hs,jE]at h;exact Co.sub (auW hs (PV h).1) (Aw xs)
  ·cases h
 nb _ xs:=Aw xs
def aMK{r:Row W}:(∀xs,(aMJ r).enc xs=.kF true r.sz (mp r.enc xs))/\∀H v,(aMJ r).mH H v=aKz r v:=⟨fun _=>rfl,fun _ _=>rfl⟩
def aDv{M:kK R}{k:List Kt}:GP M p k J (.goto l)=none:=rfl
attribute [go_sem] vwN num aMH aMI aLK aI4 av4 aDt or_true aH7 aKy aDv aAK aF1 axO aMK aKz Bool.not_true Bool.not_false aH6 and_false false_and and_true true_and
theorem adu(s:kj):(sb s).data.toList=s:=by simp [sb]
def aEK {y:AV}{vs:Array aRK}{u v:aRK}(h:kP E [x,y] vs.toList)(hx:∀w,pm E x w->w=u)(hy:∀w,pm E y w->w=v):vs= #[u,v]:=by
 obtain⟨v0,us,hvs,r0,v1,us1,hus,r1,alu⟩:=h;have aOD:us1=[]:=alu
 grind
def aLB(c:Int):UInt8:=c.toNat.toUInt8
def auX(he:xE P f=true)
 (h:∀(s:ByteArray)(c:Int)(w:aRM),Calls P f #[.string s,.int .u8 c] w fun e w'=>e=.returned (.int .i64 (Lib.indexByte s.data.toList c.toNat.toUInt8))/\w'=w)
 (s:kj) (c:Int):I5 P f [mo.enc s,(lr .u8).enc c] (fun v=>v=(lr .i64).enc (Lib.indexByte s (aLB c))):=by
 refine⟨he,⟨mo.nb 0 _,(lr .u8).nb 0 _,trivial⟩,fun C U w hP hw hN0 hM vs hr=>?_⟩;obtain rfl:=aEK hr (u:=.string (sb s)) (v:=.int .u8 c) (fun _ h=>h) (fun _ h=>h);have:=h (sb s) c w;rw[adu]at this;refine this.mono ?_;rintro e w' ⟨rfl,rfl⟩;exact⟨_,_,U,rfl,rfl,rfl,eo _,fun _ _=>rfl,fun _ _=>rfl,rfl,rfl⟩
def axP(he:xE P f=true)(hk:aI2 g 0)(hkv:∀v,aI3 g 0 v->∃m,v=.int .i64 m)
 (h:∀(s sub:ByteArray)(m:Int)(w:aRM),s.size<4294967281->w.cell? ⟨g,0,none⟩=some (.int .i64 m)->Calls P f #[.string s,.string sub] w fun e w'=>e=.returned (.bool (Lib.contains s.data.toList sub.data.toList))/\w'=w)
 (s sub:kj) (hs:s.length<4294967281):I5 P f [mo.enc s,mo.enc sub] (fun v=>v=mw.enc (Lib.contains s sub)):=by
 refine⟨he,⟨mo.nb 0 _,mo.nb 0 _,trivial⟩,fun C U w hP hw hN0 hM vs hr=>?_⟩;obtain rfl:=aEK hr (u:=.string (sb s)) (v:=.string (sb sub)) (fun _ h=>h) (fun _ h=>h);obtain⟨v,hv,aH8,_⟩:=C.hk.cell g 0 hk;obtain⟨m,rfl⟩:=hkv v aH8;rw[hw]at hv;have:=h (sb s) (sb sub) m w (by rw[aQN];exact hs) hv;rw[adu,adu]at this;refine this.mono ?_;rintro e w' ⟨rfl,rfl⟩;exact⟨_,_,U,rfl,rfl,rfl,eo _,fun _ _=>rfl,fun _ _=>rfl,rfl,rfl⟩
def aKA(he:xE P f=true)(hk:aI2 g 0)(hkv:∀v,aI3 g 0 v->∃m,v=.int .i64 m)
 (h:∀(s sep:ByteArray)(m:Int)(w:aRM),s.size<4294967281->w.cell? ⟨g,0,none⟩=some (.int .i64 m)->
   Calls P f #[.string s,.string sep] w fun e w'=>e=.returned (.tuple #[.string ⟨(Lib.cut s.data.toList sep.data.toList).1.toArray⟩,.string ⟨(Lib.cut s.data.toList sep.data.toList).2.1.toArray⟩,.bool (Lib.cut s.data.toList sep.data.toList).2.2])/\∃n,w'=w.drewN n)
 (s sep:kj) (hs:s.length<4294967281):I5 P f [mo.enc s,mo.enc sep] (fun v=>v=(ty3 mo mo mw).enc (Lib.cut s sep)):=by
 refine⟨he,⟨mo.nb 0 _,mo.nb 0 _,trivial⟩,fun C U w hP hw hN0 hM vs hr=>?_⟩;obtain rfl:=aEK hr (u:=.string (sb s)) (v:=.string (sb sep)) (fun _ h=>h) (fun _ h=>h);obtain⟨v,hv,aH8,_⟩:=C.hk.cell g 0 hk;obtain⟨m,rfl⟩:=hkv v aH8;rw[hw]at hv;have:=h (sb s) (sb sep) m w (by rw[aQN];exact hs) hv;rw[adu,adu]at this;refine this.mono ?_;rintro e w' ⟨rfl,n,rfl⟩;exact⟨_,_,U,rfl,rfl,⟨_,rfl,_,_,rfl,rfl,_,_,rfl,rfl,_,_,rfl,rfl,rfl⟩,eo _,fun _ _=>rfl,fun _ _=>rfl,rfl,rfl⟩
def axQ{t:TypeId}(he:xE P f=true)
 (h:∀(s chars:ByteArray)(w:aRM),2<=chars.size->8<s.size->s.size<4294967281->chars.size<4294967281->(∀(j:Nat) b,chars.data.toList[j]? =some b->b.toNat<128)->
   Calls P f #[.string s,.string chars] w fun e w'=>e=.returned (.int .i64 (Lib.indexAny s.data.toList chars.data.toList))/\∃c d,w'=(w.alloc (.cells c t)).alloc (.cells d t))
 (s chars:kj) (h2:2<=chars.length) (h8:8<s.length) (hs:s.length<4294967281) (hc:chars.length<4294967281) (ha:∀b∈chars,b.toNat<128):
 I5 P f [mo.enc s,mo.enc chars] (fun v=>v=(lr .i64).enc (Lib.indexAny s chars)):=by
 refine⟨he,⟨mo.nb 0 _,mo.nb 0 _,trivial⟩,fun C U w hP hw hN0 hM vs hr=>?_⟩;obtain rfl:=aEK hr (u:=.string (sb s)) (v:=.string (sb chars)) (fun _ h=>h) (fun _ h=>h);have hz:∀x:kj,(sb x).size=x.length:=aQN;have:=h (sb s) (sb chars) w (by rw[hz];exact h2) (by rw[hz];exact h8) (by rw[hz];exact hs) (by rw[hz];exact hc) (fun j b hb=>ha b (by grind [adu]));rw[adu,adu]at this;refine this.mono ?_;rintro e w' ⟨rfl,c,d,rfl⟩;have aP3:∀(w:aRM)(o:Obj),w.alloc o=World.more w o:=fun _ _=>rfl
 simp only[aP3];have ho:∀(c:Array aRK) c' t' lo hi,Obj.cells c t=.cells c' t' (lo,hi)->lo=0/\hi=0:=by grind
 refine⟨_,_,U,rfl,rfl,rfl,by simp only[Vy];omega,fun b hb=>?_,fun x hx=>?_,rfl,rfl⟩
 ·grind [yZ]
 ·rw[xa _ _ (ho d),xa _ _ (ho c)]
section aEr
variable {F:Fence}
def ao8(hdf:J.df=[]):∀(ds:List Deferred)(w:aRM)(fr:Frame)(cs:List Frame),fr.mode=.returning->fr.defers=ds->F.fn fr.fn->F.room (cs.length+1+n)->nF C U J {tmps:=fr.tmps,defers:=ds} w->
 ∃w',StepsIn (Machine.fenced C.P F) C.P (lone fr cs w) (lone {fr with defers:=[]} cs w')/\nF C U J {tmps:=fr.tmps,defers:=[]} w'
 |[],w,fr,cs,hm,hd,hb,hr,S=>⟨w,by rw[show({fr with defers:=[]}:Frame)=fr by rw[<-hd]];exact StepsIn.refl _,S⟩
 |d::ds,w,fr,cs,hm,hd,hb,hr,S=>by
  have hmk:amz d=true:=by
   have:=S.defers.2.2;rw[hdf]at this;have alu:(d::ds).filter (fun d=> !amz d)=[]:=this
   grind
  obtain⟨D,hD,_⟩:=S.defers.2.1 d (List.mem_cons_self) hmk;subst hD;obtain⟨h1,S'⟩:=S.amW;have uB:fr.mode≠ .run:=by rw[hm];simp
  have aOF:=step_collected (P:=C.P) (cs:=cs) uB hd rfl (run_takeDeferred h1);have i1:(lone fr cs w).fenced C.P F:=fenced_out hb hr uB hd (fun g hg=>by simp [Target.leads]at hg);obtain⟨w',hs,S2⟩:=ao8 hdf ds (w.putObj D (.deferred none)) {fr with defers:=[]++ds} cs hm rfl hb hr S';exact⟨w',.head i1 aOF hs,S2⟩
end aEr
def VU(C:qC)(fn:Func)(c₀:Frame)(cs:List Frame)(R:Ending->FrameMode->aRM->Prop):Exit->Act->List Frame->aRM->Prop
 |.normal,a,cs',w|.ret,a,cs',w=>∃u',cs'={c₀ with mode:=u'}::cs/\∃U J,nF C U J a w/\J.df=[]/\
     ∀w',nF C U J {tmps:=a.tmps,defers:=[]} w'->∃v,(results fn a.tmps).run C.P w'=.ok v w'/\R (.returned v) u' w'
 |_,_,_,_=>False
def Yk{F:Fence}{fn:Func}{c:aRI}{args:Array aRK}{R:Ending->FrameMode->aRM->Prop}
 (hf:C.P.funcs[f]? =some fn) (hb:fn.body=some c) (hF:F.fn f)
 (h:∀(c₀:Frame)(cs:List Frame),c₀.mode=u->c.wpSIn F n C.P (VU C fn c₀ cs R) {tmps:=args++ew (fn.ntmps-args.size) undef,defers:=[]} (c₀::cs) w):
 CallsDIn F n C.P f args u w R:=by
 refine⟨hF,fun c₀ cs hu Bm=>?_⟩
 let b:Frame:={(default:Frame)with fn:=f,kind:=.deferred,roundOf:=none}
 have aML:Frame.enter C.P f args .deferred=b.atR {tmps:=args++ew (fn.ntmps-args.size) undef,defers:=[]} [.code c]:=by
  grind [Frame.enter,Frame.atR]
 obtain⟨e,a',cs',w',hl,hq,auN⟩:=h c₀ cs hu b [] rfl rfl hF Bm;rw[<-aML]at auN;cases e with
 |normal=>
  obtain⟨u',rfl,U,J,S,hdf,hw⟩:=hq;obtain⟨w2,hs,S2⟩:=ao8 (F:=F) (n:=n) hdf a'.defers w' {b.atR a' []with mode:=.returning} ({c₀ with mode:=u'}::cs) rfl rfl hF Bm S;obtain⟨v,hr,hR⟩:=hw w2 S2;exact⟨.returned v,u',w2,_,hR,StepsIn.trans (StepsIn.trans auN (.one (fenced_calm (fr:=b.atR a' []) hF Bm rfl) (stepR_end rfl))) hs,rfl,rfl,rfl,rfl,fn,hf,hr⟩
 |ret=>
  obtain⟨u',rfl,U,J,S,hdf,hw⟩:=hq;obtain⟨todo,hs0⟩:=auN.1 rfl;obtain⟨w2,hs,S2⟩:=ao8 (F:=F) (n:=n) hdf a'.defers w' {b.atR a' todo with mode:=.returning} ({c₀ with mode:=u'}::cs) rfl rfl hF Bm S;obtain⟨v,hr,hR⟩:=hw w2 S2;exact⟨.returned v,u',w2,_,hR,StepsIn.trans hs0 hs,rfl,rfl,rfl,rfl,fn,hf,hr⟩
 |panic chain=>exact hq.elim
 |exit id=>exact hq.elim
 |goto l=>exact hq.elim
 |outgrown=>exact hq.elim
def adv(P:aRL)(kE:Array aRH):List aRH->(jS->Prop)->jS->Prop
 |[],K,J=>K J
 |o::rest,K,J=>qG kE o J=some true/\∃e,lG P J o.op=some e/\e.pre/\adv P kE rest K (J.app o.dst e)
def Zz{C:qC}{kE:Array aRH}{K:jS->Prop}{cs:List Frame}{Q:Exit->Act->List Frame->aRM->Prop}
 (hQ:∀U J a w,nF C U J a w->K J->Q .normal a cs w):∀(rest:List aRH)(k:Nat),kE.toList.drop k=rest->∀(U:Nat->aRK)(J:jS)(a:Act)(w:aRM),
 adv C.P kE rest K J->nF C U J a w->wpOpsSIn Fence.wide 0 C.P kE Q (eW k rest.length) a cs w
 |[],k,_,U,J,a,w,h,S=>hQ U J a w S h
 |o::rest,k,hk,U,J,a,w,h,S=>by
  have ho:kE[k]? =some o:=by
   have:=congrArg (fun l:List aRH=>l[0]?) hk;simpa using this
  have yd:kE.toList.drop (k+1)=rest:=by
   grind [List.tail_drop]
  obtain⟨hw,e,he,hp,hr⟩:=h;simp only[eu,List.range'_succ,wpOpsSIn,ho];refine⟨fun _ _=>trivial,?_⟩;rw[z6 S hw,if_pos rfl];obtain⟨m,v,w',U',uB,hn,S'⟩:=Yb S he hp;rw[uB];rcases hn with rfl|⟨rfl,rfl⟩
  ·exact Zz hQ rest (k+1) yd U' _ _ w' hr S'
  ·exact Zz hQ rest (k+1) yd U' _ _ w' hr S'
def aqb(o:aRH):Bool:=match o.op with
 |.call {callee:=.builtin .recover,args,..}=>args.isEmpty&&o.guard.isNone
 |_=>false
def aAL(P:aRL)(rs:List ResultVar)(V:vu->List j5->Prop):oo->jS->Prop
 |.normal,J=>J.df=[]/\aoY P rs V none J
 |.ret,J=>J.df=[]/\aoY P rs V none J
 |_,_=>False
def aks{fn:Func}{id:Nat}{u':FrameMode}{v:aRK}{vs0:Array aRK}
 (hf:C.P.funcs[f]? =some fn) (hb:fn.body=some (.seq (.region id kE false) y)) (aqK:kE.toList=o::rest) (afT:aqb o=true)
 (aOG:∀(c₀:Frame)(cs:List Frame),c₀.mode=u->recoverD (c₀::cs)=some (v,{c₀ with mode:=u'}::cs)\/(recoverD (c₀::cs)=none/\v=.nilIface/\u'=u)) (hn:fn.ntmps=n) (KO:fn.results=rs.toArray) (hN0:C.N0=H.length) (HS:aJq C U H w) (hra:kP (C.env U H w) args vs0.toList) (hrx:pm (C.env U H w) x v)
 (h:adv C.P kE rest (fun J1=>∃J2,Lb J1 J2/\awp C.P y (aAL C.P rs V) J2) (jS.put {j9:=args++eb (n-args.length) .any,heap:=H,low:=H.length} o.dst x)):
 CallsDIn Fence.wide 0 C.P f vs0 u w (fun e u2 w'=>∃r,e=.returned r/\u2=u'/\∃o U' H',V o H'/\nF C U' {j9:=[],heap:=H',low:=H.length} {tmps:= #[],defers:=[]} w'/\o.rep (C.env U' H' w') (.returned r)):=by
 have hsz:vs0.size=args.length:=by have:=hra.length;simpa using this
 have S:nF C U {j9:=args++eb (n-args.length) .any,heap:=H,low:=H.length} {tmps:=vs0++ew (fn.ntmps-vs0.size) undef,defers:=[]} w:=by
  refine {HS with j9:=?_,defers:=tv.nil};simp only[ez,Array.toList_replicate];refine hra.append ?_;rw[hsz,hn];have:=kP.Fl (E:=C.env U H w) (eb (n-args.length) undef);simpa using this
 have JB:∀{U':Nat->aRK}{J':jS}{a'':Act}{w'':aRM},nF C U' J' a'' w''->J'.low=H.length:=fun S'=>by rw[<-S'.low.1];exact hN0
 refine Yk hf hb trivial ?_;intro c₀ cs hu;refine wpSIn_seq (wpSIn_region ?_)
 have aa2:eT kE.size=0::eW 1 rest.length:=by
  grind [Array.length_toList,List.range_eq_range',List.range'_succ]
 have ho:kE[0]? =some o:=by
  have:kE.toList[0]? =some o:=by rw[aqK];rfl
  simpa using this
 rw[aa2];simp only[wpOpsSIn,ho];refine⟨fun _ _=>trivial,?_⟩
 have uB:(execOp (Act.eval {tmps:=vs0++ew (fn.ntmps-vs0.size) undef,defers:=[]}) o).run C.P w=.ok .recover w/\o.guard=none:=by
  unfold aqb at afT;split at afT
  all_goals simp_all [execOp,resolve,invoke,builtin]
 have hw:Region.wanted o (yielded kE (vs0++ew (fn.ntmps-vs0.size) undef))=true:=by
  unfold Region.wanted;rw[uB.2]
 rw[hw,if_pos rfl,uB.1];have S1:=S.put o.dst hrx
 have key:wpOpsSIn Fence.wide 0 C.P kE (Exit.thenS (y.wpSIn Fence.wide 0 C.P (VU C fn c₀ cs (fun e u2 w'=>∃r,e=.returned r/\u2=u'/\∃o U' H',V o H'/\nF C U' {j9:=[],heap:=H',low:=H.length} {tmps:= #[],defers:=[]} w'/\o.rep (C.env U' H' w') (.returned r))))
  (VU C fn c₀ cs (fun e u2 w'=>∃r,e=.returned r/\u2=u'/\∃o U' H',V o H'/\nF C U' {j9:=[],heap:=H',low:=H.length} {tmps:= #[],defers:=[]} w'/\o.rep (C.env U' H' w') (.returned r)))) (eW 1 rest.length)
  (Act.put {tmps:=vs0++ew (fn.ntmps-vs0.size) undef,defers:=[]} o.dst v) ({c₀ with mode:=u'}::cs) w:=by
  refine Zz (K:=fun J1=>∃J2,Lb J1 J2/\awp C.P y (aAL C.P rs V) J2) ?_ rest 1 (by rw[aqK];rfl) U _ _ w h S1;rintro U1 J1 a1 w1 S1 ⟨J2,I6,hy⟩;obtain⟨U2,S2⟩:=I6 C U1 a1 w1 S1;refine wpSIn_of_wpIn rfl (wpIn_mono (yy (ro:=none) y _ U2 J2 a1 w1 (.inl rfl) hy S2) ?_);intro e a' w' hq
  have y9:∀U' J',nF C U' J' a' w'->J'.df=[]/\aoY C.P rs V none J'->VU C fn c₀ cs (fun e u2 w'=>∃r,e=.returned r/\u2=u'/\∃o U' H',V o H'/\nF C U' {j9:=[],heap:=H',low:=H.length} {tmps:= #[],defers:=[]} w'/\o.rep (C.env U' H' w') (.returned r)) .normal a' ({c₀ with mode:=u'}::cs) w':=by
   rintro U' J' S' ⟨hdf,xr,hx,r,H',hex,hV'⟩;refine⟨_,rfl,U',J',S',hdf,fun w'' S''=>?_⟩;obtain⟨vv,hv,rv⟩:=QR (fn:=fn) S'' (by rw[KO];exact hx);obtain⟨U3,S3,hr3⟩:=hex C U' _ w'' S'' vv rv;rw[JB S'']at S3;exact⟨vv,hv,vv,rfl,rfl,.ret r,U3,H',hV',S3,hr3⟩
  cases e with
  |normal=>obtain⟨U',J',S',hq⟩:=hq;exact y9 U' J' S' hq
  |ret=>obtain⟨U',J',S',hq⟩:=hq;exact y9 U' J' S' hq
  |exit id=>obtain⟨_,_,_,hq⟩:=hq;exact hq.elim
  |goto l=>obtain⟨_,_,_,hq⟩:=hq;exact hq.elim
  |panic chain=>obtain⟨_,_,_,_,_,hq,_⟩:=hq;exact hq.elim
  |outgrown=>exact hq.elim
 rcases aOG c₀ cs hu with hm|⟨hm,hv,hu'⟩
 ·simp only[hm];exact key
 ·simp only[hm];subst hv hu';rw[show({c₀ with mode:=u'}:Frame)=c₀ by rw[<-hu]]at key;exact key
def aqL{fn:Func}{id:Nat}(hf:P.funcs[f]? =some fn)(hb:fn.body=some (.seq (.region id kE false) y))(aqK:kE.toList=o::rest)(afT:aqb o=true)
 (GH:uc H.length (args++[x])) (I7:∀x∈H,sk H.length x) (hn:fn.ntmps=n) (KO:fn.results=rs.toArray)
 (h:adv P kE rest (fun J1=>∃J2,Lb J1 J2/\awp P y (aAL P rs V) J2) (jS.put {j9:=args++eb (n-args.length) .any,heap:=H,low:=H.length} o.dst x)):FnT P (auP P f) (args++[x]) H V:=by
 refine⟨GH,I7,fun C U w hP h0 hN0 hφ0 hM HS vs hr vs0 v hvs=>?_⟩;subst hP;subst hvs
 have hr':kP (C.env U H w) args vs0.toList/\pm (C.env U H w) x v:=by
  rw[Array.toList_push]at hr
  have hl:vs0.toList.length=args.length:=by
   have:=hr.length;simp at this;simpa using this
  have h1:=hr.take args.length;have h2:=hr.drop args.length;rw[ed rfl,ed hl]at h1;rw[eg rfl,eg hl]at h2;obtain⟨u,us,he,r1,_⟩:=h2
  grind
 refine xQ (aks (u':=.panicking [{v,recovered:=true}]) hf hb aqK afT (fun c₀ cs hu=>.inl (by simp only[recoverD,hu])) hn KO hN0 HS hr'.1 hr'.2 h) ?_;rintro e u' w' ⟨r,rfl,rfl,yd⟩;exact⟨r,rfl,.inl ⟨rfl,yd⟩⟩
def aqM{fn:Func}{id:Nat}(hf:P.funcs[f]? =some fn)(hb:fn.body=some (.seq (.region id kE false) y))(aqK:kE.toList=o::rest)(afT:aqb o=true)
 (GH:uc H.length args) (I7:∀x∈H,sk H.length x) (hn:fn.ntmps=n) (KO:fn.results=rs.toArray)
 (h:adv P kE rest (fun J1=>∃J2,Lb J1 J2/\awp P y (aAL P rs V) J2) (jS.put {j9:=args++eb (n-args.length) .any,heap:=H,low:=H.length} o.dst (.sV .nilIface))):FnT P (auO P f) args H V:=by
 refine⟨GH,I7,fun C U w hP h0 hN0 hφ0 hM HS vs hr=>?_⟩;subst hP;refine xQ (aks (u':=.returning) (x:=.sV .nilIface) (v:=.nilIface) hf hb aqK afT (fun c₀ cs hu=>.inr ⟨by simp only[recoverD,hu],rfl,rfl⟩) hn KO hN0 HS hr rfl h) ?_;rintro e u' w' ⟨r,rfl,rfl,yd⟩;exact⟨r,rfl,rfl,yd⟩
section run
variable {M:kK R}
def aqc{kE:Array aRH}{K:jS->Prop}:∀(rest:List aRH)(J:jS)(e:oo)(J':jS),rest.all (fun o=>asC o.op&&(match o.op with|.call _=>false|.defer _=>false|_=>o.guard.isNone))=true->vW M kE rest J=some (e,J')->K J'->adv M.P kE rest K J
 |[],J,e,J',_,h,hK=>by simp only[vW,dW,dX]at h;obtain⟨_,rfl⟩:=h;exact hK
 |o::rest,J,e,J',hc,h,hK=>by
  rw[eF,dY,dY]at hc;obtain⟨⟨h1,h2⟩,h3⟩:=hc
  have hg:o.guard=none:=by
   split at h2
   all_goals simp_all
  have hw:qG kE o J=some true:=by unfold qG;rw[hg]
  have hgs:wq kE o true J=J:=axu hw;simp only[vW,hw,jE,hgs,agX h1,aAc h1]at h
  have hy:Ig J o.op=none:=by
   unfold Ig
   grind
  have hd:Ih J o.op=none:=by
   unfold Ih
   grind
  simp only[hy,hd]at h;cases he:lG M.P J o.op with
  |none=>simp only[he]at h;cases h
  |some e'=>
   simp only[he]at h;rw[mX]at h;exact⟨hw,e',he,h.1,aqc rest _ e J' h3 h.2 hK⟩
def ajH(rest:List aRH):Bool:=rest.all fun o=>asC o.op&&(match o.op with|.call _=>false|.defer _=>false|_=>o.guard.isNone)
def aEL{id:Nat}{r:R}(G:Fw M)(ON:M.body= .seq (.region id kE false) y)(aAM:ajH rest=true)
 (asF:∀J,M.out J=some r->Q .normal J/\Q .ret J) (h:run M [.kE kE rest,.cut [1],.at [1]] J=some r) (hP:∀x J',M.rk x J'=none:=by intros;rfl):adv M.P kE rest (fun J1=>∃J2,Lb J1 J2/\awp M.P y Q J2) J:=by
 have h':y9 M [.kE kE rest,.cut [1],.at [1]] .normal J=some r:=h;rw[qF (by simp)]at h';simp only[Au]at h';cases hx:vW M kE rest J with
 |none=>simp only[hx]at h';cases h'
 |some q=>
  obtain⟨e,J1⟩:=q
  have aOH:e=.normal:=adn rest J e J1 (by
   grind [ajH]) hx
  subst aOH;simp only[hx]at h';refine aqc rest J _ J1 aAM hx ?_;rw[qF (by simp)]at h';simp only[Au]at h';cases aL2:M.cut [1] J1 with
  |none=>grind
  |some J2=>
   simp only[aL2,eK]at h';refine⟨J2,G.cut _ _ _ aL2,?_⟩;have h1:sub [1] M.body=y:=by rw[ON];rfl
   rw[qF (by simp)]at h';simp only[Au,h1]at h';cases aQK:exec M y [1] J2 with
   |none=>simp only[aQK]at h';cases h'
   |some q=>
    obtain⟨e2,J3⟩:=q;simp only[aQK]at h';refine As G _ [1] _ _ e2 J3 aQK ?_;cases e2 with
    |normal=>exact(asF J3 h').1
    |ret=>exact(asF J3 h').2
    |panic x=>simp only[y9,hP]at h';cases h'
    |_=>simp only[y9]at h';cases h'
end run
end Go.Abs
end
