/- A part of the proof: the data of the program. -/
import Derived.Test.YtdkeelhebopgkaaGreatDoorCoreC
import Derived.Test.YtdkeelhebopgkaaGreatDoorProg
import Derived.KernelRfl
import Derived.Test.YtdkeelhebopgkaaGreatDoorCoreD
set_option linter.all false
open Go.Proofs.Tryz renaming prog→eT
open Option renaming bind_eq_some_iff→eU
open Option.some renaming injEq→eV
open Bool renaming true_or→eW
open ByteArray renaming empty→eX
namespace Go.Abs
variable {cs:List AV}{H:List kp}{n:Nat}{O:Type}
set_option maxRecDepth 10000
def at3(n:Nat)(x:Int):xB n (abz x):=⟨trivial,trivial⟩
def aCe(n:Nat)(x:Int):xB n (amt x):=⟨trivial,trivial⟩
def Wb(n:Nat)(x:Str):xB n (nh x):=⟨trivial,trivial⟩
def at4(n:Nat)(x:Bool):xB n (ahs x):=⟨trivial,trivial⟩
def qi{W:Type}{f:W->List AV}{n:Nat}(h:∀x,xB n (f x)):∀xs:List W,Qv n (mp f xs)
 |[]=>by rw[tQ];trivial
 |x::xs=>by have:=qi h xs;rw[tQ]at this ⊢;exact⟨h x,this⟩
def zC(h:cs.length=n):l8 true n cs=some (.agg cs):=by
 simp only[l8,<-h,Nat.le_refl,jQ,List.take_length]
def aCf:(∀(n:Nat)(xs:List Int),Qv n (mp abz xs)=True)/\(∀(n:Nat)(xs:List Int),Qv n (mp amt xs)=True)/\(∀(n:Nat)(xs:List Str),Qv n (mp nh xs)=True)/\∀(n:Nat)(xs:List Bool),Qv n (mp ahs xs)=True:=⟨fun n xs=>eq_true (qi (at3 n) xs),fun n xs=>eq_true (qi (aCe n) xs),fun n xs=>eq_true (qi (Wb n) xs),fun n xs=>eq_true (qi (at4 n) xs)⟩
def azG:(∀(Y:Nat->Nat)(xs:List Int),Fg Y (mp abz xs)=mp abz xs)/\(∀(Y:Nat->Nat)(xs:List Str),Fg Y (mp nh xs)=mp nh xs)/\∀(Y:Nat->Nat)(xs:List Bool),Fg Y (mp ahs xs)=mp ahs xs:=⟨fun Y xs=>uM Y _ (qi (at3 0) xs),fun Y xs=>uM Y _ (qi (Wb 0) xs),fun Y xs=>uM Y _ (qi (at4 0) xs)⟩
attribute [go_sem] abz nh ahs amt aCf azG
def KA {W:Type}{f:O->Option W}{g:W->O}(h:∀x,f (g x)=some x):∀(xs:List W)(i:Nat)(r:O),so f ((mp g xs).set i r)=bif decide (i<xs.length)then(f r).bind fun y=>some (xs.set i y)else some xs:=by
 intro xs;rw[tQ];induction xs with
 |nil=>intro i r;simp [so]
 |cons x xs ih=>
  intro i r;cases i with
  |zero=>
   simp only[List.map_cons,List.set_cons_zero,so,ams h,List.length_cons,Nat.zero_lt_succ,decide_true,jK];cases f r<;>rfl
  |succ i=>
   simp only[List.map_cons,List.set_cons_succ,so,h,ih i r,List.length_cons,Nat.succ_lt_succ_iff,Option.bind_some];by_cases hi:i<xs.length
   ·simp only[hi,decide_true,jK];cases f r<;>rfl
   ·simp only[hi,decide_false,jL];rfl
def azH:(∀(xs:List Int)(i:Nat)(r:List AV),so (dI1 .i64) ((mp abz xs).set i r)=bif decide (i<xs.length)then(dI1 .i64 r).bind fun y=>some (xs.set i y)else some xs)/\(∀(xs:List Bool)(i:Nat)(r:List AV),so dB1 ((mp ahs xs).set i r)=bif decide (i<xs.length)then(dB1 r).bind fun y=>some (xs.set i y)else some xs)/\(∀(xs:List Str)(i:Nat)(r:List AV),so dS1 ((mp nh xs).set i r)=bif decide (i<xs.length)then(dS1 r).bind fun y=>some (xs.set i y)else some xs):=⟨KA fun x=>by simp [dI1,abz,dI],KA fun x=>rfl,KA fun x=>rfl⟩
attribute [go_sem] azH
def apo{W O:Type}{f:O->Option W}{z:O}:∀n:Nat,so f (List.replicate n z)=bif n==0 then some [] else(f z).bind fun y=>some (List.replicate n y)
 |0=>rfl
 |n+1=>by
  simp only[List.replicate_succ,so,apo n];cases f z with
  |none=>rfl
  |some y=>cases n<;>rfl
attribute [go_sem] apo
def aHD{t:Bool}{z k:Nat}{r BD:List (List AV)}{o:Option O}{x:O}(L9:o=some x->XR r BD)(h:(bif IQ z k r then o else none)=some x):Ma (.lS t z r) (.lS false k BD):=by
 cases hs:IQ z k r with
 |false=>simp [hs]at h
 |true=>rw[hs]at h;exact XZ hs (L9 h)
structure ko where
 name:Str
 plus:Int
def ko.cells(x:ko):List AV:=[.str (sb x.name),.int .i64 x.plus]
theorem ko.nV(x:ko):x.cells=[.str (sb x.name),.int .i64 x.plus]:=rfl
theorem ko.kG(x:ko):x.cells=[.str (sb x.name),.int .i64 x.plus]:=rfl
attribute [irreducible] ko.cells
theorem ko.length(x:ko):x.cells.length=2:=by rw[ko.kG];rfl
def ko.pL(x:ko):x.cells.all AV.pL=true:=by rw[ko.kG];rfl
theorem ko.nb(n:Nat)(x:ko):xB n x.cells:=by
 rw[ko.nV];exact⟨trivial,trivial,trivial⟩
def ko.of(H:List kp):List AV->Option ko
 |[c0,c1]=>(dS c0).bind fun x0=>(dI .i64 c1).bind fun x1=>some (.mk x0 x1)
 |_=>none
def ko.uk{c0 c1:AV}:ko.of H [c0,c1]=(dS c0).bind fun x0=>(dI .i64 c1).bind fun x1=>some (.mk x0 x1):=rfl
def ko.ot(H:List kp)(x:ko):ko.of H [.str (sb x.name),.int .i64 x.plus]=some x:=by
 simp only[ko.uk,Nd,Gw,V5,vJ,IQ,beq_self_eq_true,eW,jK,dL]
 try (cases x;rfl)
theorem ko.qV(H:List kp)(x:ko):ko.of H x.cells=some x:=by rw[ko.kG];exact ko.ot H x
def ko.yq{x:ko}(h:ko.of H cs=some x):o9 H n cs x.cells:=by
 unfold ko.of at h;split at h
 ·simp only[eU,eV]at h;obtain⟨x0,h0,x1,h1,rfl⟩:=h;rw[ko.nV];exact(o9.cons (ahr h0) (o9.cons (BF h1) o9.nil))
 ·cases h
def ko.ku:ZJ ko:=⟨ko.cells,ko.of,fun _ _ _ _ h=>ko.yq h,ko.nb⟩
def ko.row:Row ko:=⟨ko.cells,ko.of [],2,fun _ _ h=>(ko.yq (n:=0) h).qc,ko.nb⟩
def ko.qQ(xs:List ko):so (ko.of []) (mp ko.cells xs)=some xs:=Iw (ko.qV []) xs
def ko.KA(xs:List ko)(i:Nat)(r:List AV):so (ko.of []) ((mp ko.cells xs).set i r)=bif decide (i<xs.length)then(ko.of [] r).bind fun y=>some (xs.set i y)else some xs:=Go.Abs.KA (ko.qV []) xs i r
attribute [go_sem low] ko.KA
def ko.HI:ko.row.enc=ko.cells/\ko.row.mL=ko.of []/\ko.row.sz=2/\ko.ku.enc=ko.cells/\ko.ku.mL=ko.of:=⟨rfl,rfl,rfl,rfl,rfl⟩
attribute [go_sem] ko.uk ko.qV ko.qQ ko.HI
def ko.prj:(∀(y0:Str)(y1:Int),(ko.mk y0 y1).name=y0)/\(∀(y0:Str)(y1:Int),(ko.mk y0 y1).plus=y1):=⟨fun _ _=>rfl,fun _ _=>rfl⟩
attribute [go_sem] ko.prj
def ko.nbs:(∀(n:Nat)(x:ko),Go.Abs.xB n x.cells=True)/\∀(n:Nat)(xs:List ko),Go.Abs.Qv n (mp ko.cells xs)=True:=⟨fun n x=>eq_true (ko.nb n x),fun n xs=>eq_true (qi (ko.nb n) xs)⟩
def ko.abG:(∀(Y:Nat->Nat)(x:ko),sO Y x.cells=x.cells)/\∀(Y:Nat->Nat)(xs:List ko),Fg Y (mp ko.cells xs)=mp ko.cells xs:=⟨fun Y x=>sG Y _ (ko.nb 0 x),fun Y xs=>uM Y _ (qi (ko.nb 0) xs)⟩
def ko.reads:
 (∀x:ko,cellsOf (.agg x.cells)=some x.cells)/\
 (∀x:ko,l8 true 2 x.cells=some (.agg x.cells))/\
 (∀x:ko,l8 false 1 x.cells=some (.str (sb x.name)))/\
 (∀x:ko,l8 false 1 (x.cells.drop 1)=some (.int .i64 x.plus)):=
 ⟨fun x=>by simp only[cellsOf,ko.pL,jQ],
  fun x=>zC (ko.length x),
  fun x=>by rw[ko.kG];rfl,
  fun x=>by rw[ko.kG];rfl⟩
def ko.amO(x:ko)(o:Nat)(xs:List AV):uL x.cells o xs=uL [.str (sb x.name),.int .i64 x.plus] o xs:=by rw[ko.kG]
attribute [go_sem] ko.nbs ko.abG ko.reads ko.length ko.pL
attribute [go_sem low] ko.amO
structure j7 where
 Cj:Bool
 nU:List ko
def j7.cells(x:j7):List AV:=[.bool x.Cj,.lS false 2 (mp ko.cells x.nU)]
theorem j7.nV(x:j7):x.cells=[.bool x.Cj,.lS false 2 (mp ko.cells x.nU)]:=rfl
theorem j7.kG(x:j7):x.cells=[.bool x.Cj,.lS false 2 (mp ko.cells x.nU)]:=rfl
attribute [irreducible] j7.cells
theorem j7.length(x:j7):x.cells.length=2:=by rw[j7.kG];rfl
def j7.pL(x:j7):x.cells.all AV.pL=true:=by rw[j7.kG];rfl
theorem j7.nb(n:Nat)(x:j7):xB n x.cells:=by
 rw[j7.nV];exact⟨trivial,qi (ko.nb n) _,trivial⟩
def j7.of(H:List kp):List AV->Option j7
 |[c0,c1]=>(dB c0).bind fun x0=>(dL ko.row H c1).bind fun x1=>some (.mk x0 x1)
 |_=>none
def j7.uk{c0 c1:AV}:j7.of H [c0,c1]=(dB c0).bind fun x0=>(dL ko.row H c1).bind fun x1=>some (.mk x0 x1):=rfl
def j7.ot(H:List kp)(x:j7):j7.of H [.bool x.Cj,.lS false 2 (mp ko.cells x.nU)]=some x:=by
 simp only[j7.uk,Nd,Gw,V5,vJ,IQ,beq_self_eq_true,eW,jK,dL,ko.qQ,ko.row]
 try (cases x;rfl)
theorem j7.qV(H:List kp)(x:j7):j7.of H x.cells=some x:=by rw[j7.kG];exact j7.ot H x
def j7.yq{x:j7}(h:j7.of H cs=some x):o9 H n cs x.cells:=by
 unfold j7.of at h;split at h
 ·simp only[eU,eV]at h;obtain⟨x0,h0,x1,h1,rfl⟩:=h;rw[j7.nV];exact(o9.cons (as9 h0) (o9.cons (Me h1) o9.nil))
 ·cases h
def j7.ku:ZJ j7:=⟨j7.cells,j7.of,fun _ _ _ _ h=>j7.yq h,j7.nb⟩
def j7.row:Row j7:=⟨j7.cells,j7.of [],2,fun _ _ h=>(j7.yq (n:=0) h).qc,j7.nb⟩
def j7.qQ(xs:List j7):so (j7.of []) (mp j7.cells xs)=some xs:=Iw (j7.qV []) xs
def j7.KA(xs:List j7)(i:Nat)(r:List AV):so (j7.of []) ((mp j7.cells xs).set i r)=bif decide (i<xs.length)then(j7.of [] r).bind fun y=>some (xs.set i y)else some xs:=Go.Abs.KA (j7.qV []) xs i r
attribute [go_sem low] j7.KA
def j7.HI:j7.row.enc=j7.cells/\j7.row.mL=j7.of []/\j7.row.sz=2/\j7.ku.enc=j7.cells/\j7.ku.mL=j7.of:=⟨rfl,rfl,rfl,rfl,rfl⟩
attribute [go_sem] j7.uk j7.qV j7.qQ j7.HI
def j7.prj:(∀(y0:Bool)(y1:List ko),(j7.mk y0 y1).Cj=y0)/\(∀(y0:Bool)(y1:List ko),(j7.mk y0 y1).nU=y1):=⟨fun _ _=>rfl,fun _ _=>rfl⟩
attribute [go_sem] j7.prj
def j7.nbs:(∀(n:Nat)(x:j7),Go.Abs.xB n x.cells=True)/\∀(n:Nat)(xs:List j7),Go.Abs.Qv n (mp j7.cells xs)=True:=⟨fun n x=>eq_true (j7.nb n x),fun n xs=>eq_true (qi (j7.nb n) xs)⟩
def j7.abG:(∀(Y:Nat->Nat)(x:j7),sO Y x.cells=x.cells)/\∀(Y:Nat->Nat)(xs:List j7),Fg Y (mp j7.cells xs)=mp j7.cells xs:=⟨fun Y x=>sG Y _ (j7.nb 0 x),fun Y xs=>uM Y _ (qi (j7.nb 0) xs)⟩
def j7.vw(H:List kp)(x:j7):vwL H x.cells=some (x.cells,[]):=Qp H _ (j7.nb 0 x)
attribute [go_sem] j7.vw
def j7.reads:
 (∀x:j7,cellsOf (.agg x.cells)=some x.cells)/\
 (∀x:j7,l8 true 2 x.cells=some (.agg x.cells))/\
 (∀x:j7,l8 false 1 x.cells=some (.bool x.Cj))/\
 (∀x:j7,l8 false 1 (x.cells.drop 1)=some (.lS false 2 (mp ko.cells x.nU))):=
 ⟨fun x=>by simp only[cellsOf,j7.pL,jQ],
  fun x=>zC (j7.length x),
  fun x=>by rw[j7.kG];rfl,
  fun x=>by rw[j7.kG];rfl⟩
def j7.amO(x:j7)(o:Nat)(xs:List AV):uL x.cells o xs=uL [.bool x.Cj,.lS false 2 (mp ko.cells x.nU)] o xs:=by rw[j7.kG]
attribute [go_sem] j7.nbs j7.abG j7.reads j7.length j7.pL
attribute [go_sem low] j7.amO
inductive Syntax where
 |mk (kind:Int) (text:Str) (num:Int) (oe:List Str) (sW:List j7) (vE:List Syntax) (k9:Int) (to:Int)
def Syntax.kind:Syntax->Int|.mk x _ _ _ _ _ _ _=>x
def Syntax.text:Syntax->Str|.mk _ x _ _ _ _ _ _=>x
def Syntax.num:Syntax->Int|.mk _ _ x _ _ _ _ _=>x
def Syntax.oe:Syntax->List Str|.mk _ _ _ x _ _ _ _=>x
def Syntax.sW:Syntax->List j7|.mk _ _ _ _ x _ _ _=>x
def Syntax.vE:Syntax->List Syntax|.mk _ _ _ _ _ x _ _=>x
def Syntax.k9:Syntax->Int|.mk _ _ _ _ _ _ x _=>x
def Syntax.to:Syntax->Int|.mk _ _ _ _ _ _ _ x=>x
mutual
def Syntax.cells:Syntax->List AV
 |.mk kind text num oe sW vE k9 to=>[.int .i64 kind,.str (sb text),.int .i64 num,.lS false 1 (mp nh oe),.lS false 2 (mp j7.cells sW),.lS false 8 (Syntax.aqV vE),.int .i64 k9,.int .i64 to]
def Syntax.aqV:List Syntax->List (List AV)
 |[]=>[]
 |t::ts=>t.cells::Syntax.aqV ts
end
theorem Syntax.aja:∀ts:List Syntax,Syntax.aqV ts=mp Syntax.cells ts
 |[]=>by rw[tQ];rfl
 |t::ts=>by rw[Syntax.aqV,Syntax.aja ts,tQ,tQ];rfl
theorem Syntax.nV(x:Syntax):x.cells=[.int .i64 x.kind,.str (sb x.text),.int .i64 x.num,.lS false 1 (mp nh x.oe),.lS false 2 (mp j7.cells x.sW),.lS false 8 (mp Syntax.cells x.vE),.int .i64 x.k9,.int .i64 x.to]:=by
 cases x;simp only[Syntax.cells,Syntax.aja];rfl
theorem Syntax.kG(x:Syntax):x.cells=[.int .i64 x.kind,.str (sb x.text),.int .i64 x.num,.lS false 1 (mp nh x.oe),.lS false 2 (mp j7.cells x.sW),.lS false 8 (mp Syntax.cells x.vE),.int .i64 x.k9,.int .i64 x.to]:=by
 cases x;simp only[Syntax.cells,Syntax.aja,List.cons_append,List.nil_append,List.append_nil];rfl
attribute [irreducible] Syntax.cells
theorem Syntax.length(x:Syntax):x.cells.length=8:=by rw[Syntax.kG];rfl
def Syntax.pL(x:Syntax):x.cells.all AV.pL=true:=by rw[Syntax.kG];rfl
mutual
theorem Syntax.nb(n:Nat):∀x:Syntax,xB n x.cells
 | .mk kind text num oe sW vE k9 to=>by
   rw[Syntax.nV];exact⟨trivial,trivial,trivial,qi (Wb n) _,qi (j7.nb n) _,Syntax.Qv n vE,trivial,trivial,trivial⟩
theorem Syntax.Qv(n:Nat):∀ts:List Syntax,Qv n (mp Syntax.cells ts)
 |[]=>by rw[tQ];trivial
 |t::ts=>by have:=Syntax.Qv n ts;rw[tQ]at this ⊢;exact⟨Syntax.nb n t,this⟩
end
mutual
def Syntax.of0:List AV->Option Syntax
 |[c0,c1,c2,c3,c4,.lS _ z5 r5,c6,c7]=>(dI .i64 c0).bind fun x0=>(dS c1).bind fun x1=>(dI .i64 c2).bind fun x2=>(dL mq [] c3).bind fun x3=>(dL j7.row [] c4).bind fun x4=>(bif IQ z5 8 r5 then Syntax.ofR r5 else none).bind fun x5=>(dI .i64 c6).bind fun x6=>(dI .i64 c7).bind fun x7=>some (.mk x0 x1 x2 x3 x4 x5 x6 x7)
 |_=>none
def Syntax.ofR:List (List AV)->Option (List Syntax)
 |[]=>some []
 |r::rs=>(Syntax.of0 r).bind fun x=>(Syntax.ofR rs).bind fun xs=>some (x::xs)
end
def Syntax.aCg:∀rs,Syntax.ofR rs=so Syntax.of0 rs
 |[]=>by simp only[Syntax.ofR,so]
 |r::rs=>by simp only[Syntax.ofR,so,Syntax.aCg rs]
mutual
def Syntax.ajb:∀x:Syntax,Syntax.of0 x.cells=some x
 | .mk kind text num oe sW vE k9 to=>by
   rw[Syntax.kG];show Syntax.of0 [.int .i64 kind,.str (sb text),.int .i64 num,.lS false 1 (mp nh oe),.lS false 2 (mp j7.cells sW),.lS false 8 (mp Syntax.cells vE),.int .i64 k9,.int .i64 to]=_;simp only[Syntax.of0,Nd,Gw,V5,vJ,IQ,beq_self_eq_true,eW,jK,dL,Syntax.apq vE,j7.qQ,j7.row,Ft,aga]
def Syntax.apq:∀xs:List Syntax,Syntax.ofR (mp Syntax.cells xs)=some xs
 |[]=>by rw[tQ];simp only[List.map_nil,Syntax.ofR]
 |x::xs=>by have h:=Syntax.apq xs;rw[tQ]at h ⊢;simp only[List.map_cons,Syntax.ofR,Syntax.ajb x,h,vJ]
end
mutual
def Syntax.aCh:∀(x:Syntax)(r:List AV),Syntax.of0 r=some x->Ew r x.cells
 | .mk kind text num oe sW vE k9 to,r,h=>by
   unfold Syntax.of0 at h;split at h
   ·simp only[eU,eV,Syntax.mk.injEq]at h;obtain⟨x0,h0,x1,h1,x2,h2,x3,h3,x4,h4,x5,h5,x6,h6,x7,h7,e0,e1,e2,e3,e4,e5,e6,e7⟩:=h;rw[e0]at h0;rw[e1]at h1;rw[e2]at h2;rw[e3]at h3;rw[e4]at h4;rw[e5]at h5;rw[e6]at h6;rw[e7]at h7;rw[Syntax.nV];exact(Ew.cons ((BF (H:=[]) (n:=0) h0).qc) (Ew.cons ((ahr (H:=[]) (n:=0) h1).qc) (Ew.cons ((BF (H:=[]) (n:=0) h2).qc) (Ew.cons ((Me (H:=[]) (n:=0) h3).qc) (Ew.cons ((Me (H:=[]) (n:=0) h4).qc) (Ew.cons (aHD (Syntax.aCi vE _) h5) (Ew.cons ((BF (H:=[]) (n:=0) h6).qc) (Ew.cons ((BF (H:=[]) (n:=0) h7).qc) Ew.nil))))))))
   ·cases h
def Syntax.aCi:∀(xs:List Syntax)(rs:List (List AV)),Syntax.ofR rs=some xs->XR rs (mp Syntax.cells xs)
 |[],rs,h=>by
  cases rs with
  |nil=>rw[tQ];exact XR.nil
  |cons r rs=>
   simp only[Syntax.ofR,eU,eV]at h;obtain⟨_,_,_,_,h⟩:=h;cases h
 |x::xs,rs,h=>by
  cases rs with
  |nil=>simp only[Syntax.ofR,eV]at h;cases h
  |cons r rs=>
   simp only[Syntax.ofR,eU,eV,List.cons.injEq]at h;obtain⟨_,hx,_,hys,rfl,rfl⟩:=h;have h2:=Syntax.aCi _ rs hys;rw[tQ]at h2 ⊢;exact XR.cons (Syntax.aCh _ r hx).aDM h2
end
def Syntax.row:Row Syntax:=⟨Syntax.cells,Syntax.of0,8,fun r x h=>Syntax.aCh x r h,Syntax.nb⟩
def Syntax.qQ(xs:List Syntax):so Syntax.of0 (mp Syntax.cells xs)=some xs:=Iw Syntax.ajb xs
def Syntax.of(H:List kp):List AV->Option Syntax
 |[c0,c1,c2,c3,c4,c5,c6,c7]=>(dI .i64 c0).bind fun x0=>(dS c1).bind fun x1=>(dI .i64 c2).bind fun x2=>(dL mq H c3).bind fun x3=>(dL j7.row H c4).bind fun x4=>(dL Syntax.row H c5).bind fun x5=>(dI .i64 c6).bind fun x6=>(dI .i64 c7).bind fun x7=>some (.mk x0 x1 x2 x3 x4 x5 x6 x7)
 |_=>none
def Syntax.uk{c0 c1 c2 c3 c4 c5 c6 c7:AV}:Syntax.of H [c0,c1,c2,c3,c4,c5,c6,c7]=(dI .i64 c0).bind fun x0=>(dS c1).bind fun x1=>(dI .i64 c2).bind fun x2=>(dL mq H c3).bind fun x3=>(dL j7.row H c4).bind fun x4=>(dL Syntax.row H c5).bind fun x5=>(dI .i64 c6).bind fun x6=>(dI .i64 c7).bind fun x7=>some (.mk x0 x1 x2 x3 x4 x5 x6 x7):=rfl
def Syntax.ot(H:List kp)(x:Syntax):Syntax.of H [.int .i64 x.kind,.str (sb x.text),.int .i64 x.num,.lS false 1 (mp nh x.oe),.lS false 2 (mp j7.cells x.sW),.lS false 8 (mp Syntax.cells x.vE),.int .i64 x.k9,.int .i64 x.to]=some x:=by
 simp only[Syntax.uk,Nd,Gw,V5,vJ,IQ,beq_self_eq_true,eW,jK,dL,j7.qQ,j7.row,Syntax.qQ,Syntax.row,Ft,aga]
 try (cases x;rfl)
theorem Syntax.qV(H:List kp)(x:Syntax):Syntax.of H x.cells=some x:=by rw[Syntax.kG];exact Syntax.ot H x
def Syntax.yq{x:Syntax}(h:Syntax.of H cs=some x):o9 H n cs x.cells:=by
 unfold Syntax.of at h;split at h
 ·simp only[eU,eV]at h;obtain⟨x0,h0,x1,h1,x2,h2,x3,h3,x4,h4,x5,h5,x6,h6,x7,h7,rfl⟩:=h;rw[Syntax.nV];exact(o9.cons (BF h0) (o9.cons (ahr h1) (o9.cons (BF h2) (o9.cons (Me h3) (o9.cons (Me h4) (o9.cons (Me h5) (o9.cons (BF h6) (o9.cons (BF h7) o9.nil))))))))
 ·cases h
def Syntax.ku:ZJ Syntax:=⟨Syntax.cells,Syntax.of,fun _ _ _ _ h=>Syntax.yq h,Syntax.nb⟩
def Syntax.HI:Syntax.row.enc=Syntax.cells/\Syntax.row.mL=Syntax.of0/\Syntax.row.sz=8/\Syntax.ku.enc=Syntax.cells/\Syntax.ku.mL=Syntax.of:=⟨rfl,rfl,rfl,rfl,rfl⟩
def Syntax.eta(x:Syntax):Syntax.mk x.kind x.text x.num x.oe x.sW x.vE x.k9 x.to=x:=by cases x;rfl
attribute [go_sem] Syntax.uk Syntax.qV Syntax.qQ Syntax.HI Syntax.eta Syntax.of0 Syntax.ajb Syntax.aCg
def Syntax.prj:(∀(y0:Int)(y1:Str)(y2:Int)(y3:List Str)(y4:List j7)(y5:List Syntax)(y6:Int)(y7:Int),(Syntax.mk y0 y1 y2 y3 y4 y5 y6 y7).kind=y0)/\(∀(y0:Int)(y1:Str)(y2:Int)(y3:List Str)(y4:List j7)(y5:List Syntax)(y6:Int)(y7:Int),(Syntax.mk y0 y1 y2 y3 y4 y5 y6 y7).text=y1)/\(∀(y0:Int)(y1:Str)(y2:Int)(y3:List Str)(y4:List j7)(y5:List Syntax)(y6:Int)(y7:Int),(Syntax.mk y0 y1 y2 y3 y4 y5 y6 y7).num=y2)/\(∀(y0:Int)(y1:Str)(y2:Int)(y3:List Str)(y4:List j7)(y5:List Syntax)(y6:Int)(y7:Int),(Syntax.mk y0 y1 y2 y3 y4 y5 y6 y7).oe=y3)/\(∀(y0:Int)(y1:Str)(y2:Int)(y3:List Str)(y4:List j7)(y5:List Syntax)(y6:Int)(y7:Int),(Syntax.mk y0 y1 y2 y3 y4 y5 y6 y7).sW=y4)/\(∀(y0:Int)(y1:Str)(y2:Int)(y3:List Str)(y4:List j7)(y5:List Syntax)(y6:Int)(y7:Int),(Syntax.mk y0 y1 y2 y3 y4 y5 y6 y7).vE=y5)/\(∀(y0:Int)(y1:Str)(y2:Int)(y3:List Str)(y4:List j7)(y5:List Syntax)(y6:Int)(y7:Int),(Syntax.mk y0 y1 y2 y3 y4 y5 y6 y7).k9=y6)/\(∀(y0:Int)(y1:Str)(y2:Int)(y3:List Str)(y4:List j7)(y5:List Syntax)(y6:Int)(y7:Int),(Syntax.mk y0 y1 y2 y3 y4 y5 y6 y7).to=y7):=⟨fun _ _ _ _ _ _ _ _=>rfl,fun _ _ _ _ _ _ _ _=>rfl,fun _ _ _ _ _ _ _ _=>rfl,fun _ _ _ _ _ _ _ _=>rfl,fun _ _ _ _ _ _ _ _=>rfl,fun _ _ _ _ _ _ _ _=>rfl,fun _ _ _ _ _ _ _ _=>rfl,fun _ _ _ _ _ _ _ _=>rfl⟩
attribute [go_sem] Syntax.prj
def Syntax.nbs:(∀(n:Nat)(x:Syntax),Go.Abs.xB n x.cells=True)/\∀(n:Nat)(xs:List Syntax),Go.Abs.Qv n (mp Syntax.cells xs)=True:=⟨fun n x=>eq_true (Syntax.nb n x),fun n xs=>eq_true (qi (Syntax.nb n) xs)⟩
def Syntax.abG:(∀(Y:Nat->Nat)(x:Syntax),sO Y x.cells=x.cells)/\∀(Y:Nat->Nat)(xs:List Syntax),Fg Y (mp Syntax.cells xs)=mp Syntax.cells xs:=⟨fun Y x=>sG Y _ (Syntax.nb 0 x),fun Y xs=>uM Y _ (qi (Syntax.nb 0) xs)⟩
def Syntax.vw(H:List kp)(x:Syntax):vwL H x.cells=some (x.cells,[]):=Qp H _ (Syntax.nb 0 x)
attribute [go_sem] Syntax.vw
theorem Syntax.frz(low:Nat)(H:List kp)(x:Syntax):al2 low H x.cells=x.cells:=M8 low H _ (Syntax.nb 0 x)
def Syntax.tk:(∀x:Syntax,List.take 8 x.cells=x.cells)/\∀x:Syntax,List.drop 8 x.cells=[]:=⟨fun x=>by rw[Syntax.kG];rfl,fun x=>by rw[Syntax.kG];rfl⟩
attribute [go_sem] Syntax.tk
def Syntax.reads:
 (∀x:Syntax,cellsOf (.agg x.cells)=some x.cells)/\
 (∀x:Syntax,l8 true 8 x.cells=some (.agg x.cells))/\
 (∀x:Syntax,l8 false 1 x.cells=some (.int .i64 x.kind))/\
 (∀x:Syntax,l8 false 1 (x.cells.drop 1)=some (.str (sb x.text)))/\
 (∀x:Syntax,l8 false 1 (x.cells.drop 2)=some (.int .i64 x.num))/\
 (∀x:Syntax,l8 false 1 (x.cells.drop 3)=some (.lS false 1 (mp nh x.oe)))/\
 (∀x:Syntax,l8 false 1 (x.cells.drop 4)=some (.lS false 2 (mp j7.cells x.sW)))/\
 (∀x:Syntax,l8 false 1 (x.cells.drop 5)=some (.lS false 8 (mp Syntax.cells x.vE)))/\
 (∀x:Syntax,l8 false 1 (x.cells.drop 6)=some (.int .i64 x.k9))/\
 (∀x:Syntax,l8 false 1 (x.cells.drop 7)=some (.int .i64 x.to)):=
 ⟨fun x=>by simp only[cellsOf,Syntax.pL,jQ],
  fun x=>zC (Syntax.length x),
  fun x=>by rw[Syntax.kG];rfl,
  fun x=>by rw[Syntax.kG];rfl,
  fun x=>by rw[Syntax.kG];rfl,
  fun x=>by rw[Syntax.kG];rfl,
  fun x=>by rw[Syntax.kG];rfl,
  fun x=>by rw[Syntax.kG];rfl,
  fun x=>by rw[Syntax.kG];rfl,
  fun x=>by rw[Syntax.kG];rfl⟩
def Syntax.amO(x:Syntax)(o:Nat)(xs:List AV):uL x.cells o xs=uL [.int .i64 x.kind,.str (sb x.text),.int .i64 x.num,.lS false 1 (mp nh x.oe),.lS false 2 (mp j7.cells x.sW),.lS false 8 (mp Syntax.cells x.vE),.int .i64 x.k9,.int .i64 x.to] o xs:=by rw[Syntax.kG]
def Syntax.cns(x:Syntax)(c:AV):c::x.cells=[c,.int .i64 x.kind,.str (sb x.text),.int .i64 x.num,.lS false 1 (mp nh x.oe),.lS false 2 (mp j7.cells x.sW),.lS false 8 (mp Syntax.cells x.vE),.int .i64 x.k9,.int .i64 x.to]:=by rw[Syntax.kG]
attribute [go_sem] Syntax.cns Syntax.nbs Syntax.abG Syntax.frz Syntax.reads Syntax.length Syntax.pL
attribute [go_sem low] Syntax.amO
structure kH where
 kind:Int
 text:Str
 nE:Int
def kH.cells(x:kH):List AV:=[.int .i64 x.kind,.str (sb x.text),.int .i64 x.nE]
theorem kH.nV(x:kH):x.cells=[.int .i64 x.kind,.str (sb x.text),.int .i64 x.nE]:=rfl
theorem kH.kG(x:kH):x.cells=[.int .i64 x.kind,.str (sb x.text),.int .i64 x.nE]:=rfl
attribute [irreducible] kH.cells
theorem kH.length(x:kH):x.cells.length=3:=by rw[kH.kG];rfl
def kH.pL(x:kH):x.cells.all AV.pL=true:=by rw[kH.kG];rfl
theorem kH.nb(n:Nat)(x:kH):xB n x.cells:=by
 rw[kH.nV];exact⟨trivial,trivial,trivial,trivial⟩
def kH.of(H:List kp):List AV->Option kH
 |[c0,c1,c2]=>(dI .i64 c0).bind fun x0=>(dS c1).bind fun x1=>(dI .i64 c2).bind fun x2=>some (.mk x0 x1 x2)
 |_=>none
def kH.uk{c0 c1 c2:AV}:kH.of H [c0,c1,c2]=(dI .i64 c0).bind fun x0=>(dS c1).bind fun x1=>(dI .i64 c2).bind fun x2=>some (.mk x0 x1 x2):=rfl
def kH.ot(H:List kp)(x:kH):kH.of H [.int .i64 x.kind,.str (sb x.text),.int .i64 x.nE]=some x:=by
 simp only[kH.uk,Nd,Gw,V5,vJ,IQ,beq_self_eq_true,eW,jK,dL]
 try (cases x;rfl)
theorem kH.qV(H:List kp)(x:kH):kH.of H x.cells=some x:=by rw[kH.kG];exact kH.ot H x
def kH.yq{x:kH}(h:kH.of H cs=some x):o9 H n cs x.cells:=by
 unfold kH.of at h;split at h
 ·simp only[eU,eV]at h;obtain⟨x0,h0,x1,h1,x2,h2,rfl⟩:=h;rw[kH.nV];exact(o9.cons (BF h0) (o9.cons (ahr h1) (o9.cons (BF h2) o9.nil)))
 ·cases h
def kH.ku:ZJ kH:=⟨kH.cells,kH.of,fun _ _ _ _ h=>kH.yq h,kH.nb⟩
def kH.row:Row kH:=⟨kH.cells,kH.of [],3,fun _ _ h=>(kH.yq (n:=0) h).qc,kH.nb⟩
def kH.qQ(xs:List kH):so (kH.of []) (mp kH.cells xs)=some xs:=Iw (kH.qV []) xs
def kH.HI:kH.row.enc=kH.cells/\kH.row.mL=kH.of []/\kH.row.sz=3/\kH.ku.enc=kH.cells/\kH.ku.mL=kH.of:=⟨rfl,rfl,rfl,rfl,rfl⟩
attribute [go_sem] kH.uk kH.qV kH.qQ kH.HI
def kH.prj:(∀(y0:Int)(y1:Str)(y2:Int),(kH.mk y0 y1 y2).kind=y0)/\(∀(y0:Int)(y1:Str)(y2:Int),(kH.mk y0 y1 y2).text=y1)/\(∀(y0:Int)(y1:Str)(y2:Int),(kH.mk y0 y1 y2).nE=y2):=⟨fun _ _ _=>rfl,fun _ _ _=>rfl,fun _ _ _=>rfl⟩
attribute [go_sem] kH.prj
def kH.nbs:(∀(n:Nat)(x:kH),Go.Abs.xB n x.cells=True)/\∀(n:Nat)(xs:List kH),Go.Abs.Qv n (mp kH.cells xs)=True:=⟨fun n x=>eq_true (kH.nb n x),fun n xs=>eq_true (qi (kH.nb n) xs)⟩
def kH.vw(H:List kp)(x:kH):vwL H x.cells=some (x.cells,[]):=Qp H _ (kH.nb 0 x)
attribute [go_sem] kH.vw
theorem kH.frz(low:Nat)(H:List kp)(x:kH):al2 low H x.cells=x.cells:=M8 low H _ (kH.nb 0 x)
def kH.reads:
 (∀x:kH,cellsOf (.agg x.cells)=some x.cells)/\
 (∀x:kH,l8 true 3 x.cells=some (.agg x.cells))/\
 (∀x:kH,l8 false 1 x.cells=some (.int .i64 x.kind))/\
 (∀x:kH,l8 false 1 (x.cells.drop 1)=some (.str (sb x.text)))/\
 (∀x:kH,l8 false 1 (x.cells.drop 2)=some (.int .i64 x.nE)):=
 ⟨fun x=>by simp only[cellsOf,kH.pL,jQ],
  fun x=>zC (kH.length x),
  fun x=>by rw[kH.kG];rfl,
  fun x=>by rw[kH.kG];rfl,
  fun x=>by rw[kH.kG];rfl⟩
attribute [go_sem] kH.nbs kH.frz kH.reads kH.length kH.pL
structure jV where
 parts:List Str
 mY:Int
 Ck:Int
 target:Str
def jV.cells(x:jV):List AV:=[.lS false 1 (mp nh x.parts),.int .i64 x.mY,.int .i64 x.Ck,.str (sb x.target)]
theorem jV.nV(x:jV):x.cells=[.lS false 1 (mp nh x.parts),.int .i64 x.mY,.int .i64 x.Ck,.str (sb x.target)]:=rfl
theorem jV.kG(x:jV):x.cells=[.lS false 1 (mp nh x.parts),.int .i64 x.mY,.int .i64 x.Ck,.str (sb x.target)]:=rfl
attribute [irreducible] jV.cells
theorem jV.length(x:jV):x.cells.length=4:=by rw[jV.kG];rfl
def jV.pL(x:jV):x.cells.all AV.pL=true:=by rw[jV.kG];rfl
theorem jV.nb(n:Nat)(x:jV):xB n x.cells:=by
 rw[jV.nV];exact⟨qi (Wb n) _,trivial,trivial,trivial,trivial⟩
def jV.of(H:List kp):List AV->Option jV
 |[c0,c1,c2,c3]=>(dL mq H c0).bind fun x0=>(dI .i64 c1).bind fun x1=>(dI .i64 c2).bind fun x2=>(dS c3).bind fun x3=>some (.mk x0 x1 x2 x3)
 |_=>none
def jV.uk{c0 c1 c2 c3:AV}:jV.of H [c0,c1,c2,c3]=(dL mq H c0).bind fun x0=>(dI .i64 c1).bind fun x1=>(dI .i64 c2).bind fun x2=>(dS c3).bind fun x3=>some (.mk x0 x1 x2 x3):=rfl
def jV.ot(H:List kp)(x:jV):jV.of H [.lS false 1 (mp nh x.parts),.int .i64 x.mY,.int .i64 x.Ck,.str (sb x.target)]=some x:=by
 simp only[jV.uk,Nd,Gw,V5,vJ,IQ,beq_self_eq_true,eW,jK,dL,Ft,aga]
 try (cases x;rfl)
theorem jV.qV(H:List kp)(x:jV):jV.of H x.cells=some x:=by rw[jV.kG];exact jV.ot H x
def jV.yq{x:jV}(h:jV.of H cs=some x):o9 H n cs x.cells:=by
 unfold jV.of at h;split at h
 ·simp only[eU,eV]at h;obtain⟨x0,h0,x1,h1,x2,h2,x3,h3,rfl⟩:=h;rw[jV.nV];exact(o9.cons (Me h0) (o9.cons (BF h1) (o9.cons (BF h2) (o9.cons (ahr h3) o9.nil))))
 ·cases h
def jV.ku:ZJ jV:=⟨jV.cells,jV.of,fun _ _ _ _ h=>jV.yq h,jV.nb⟩
def jV.row:Row jV:=⟨jV.cells,jV.of [],4,fun _ _ h=>(jV.yq (n:=0) h).qc,jV.nb⟩
def jV.qQ(xs:List jV):so (jV.of []) (mp jV.cells xs)=some xs:=Iw (jV.qV []) xs
def jV.HI:jV.row.enc=jV.cells/\jV.row.mL=jV.of []/\jV.row.sz=4/\jV.ku.enc=jV.cells/\jV.ku.mL=jV.of:=⟨rfl,rfl,rfl,rfl,rfl⟩
attribute [go_sem] jV.uk jV.qV jV.qQ jV.HI
def jV.prj:(∀(y0:List Str)(y1:Int)(y2:Int)(y3:Str),(jV.mk y0 y1 y2 y3).parts=y0)/\(∀(y0:List Str)(y1:Int)(y2:Int)(y3:Str),(jV.mk y0 y1 y2 y3).mY=y1)/\(∀(y0:List Str)(y1:Int)(y2:Int)(y3:Str),(jV.mk y0 y1 y2 y3).Ck=y2)/\(∀(y0:List Str)(y1:Int)(y2:Int)(y3:Str),(jV.mk y0 y1 y2 y3).target=y3):=⟨fun _ _ _ _=>rfl,fun _ _ _ _=>rfl,fun _ _ _ _=>rfl,fun _ _ _ _=>rfl⟩
attribute [go_sem] jV.prj
def jV.nbs:(∀(n:Nat)(x:jV),Go.Abs.xB n x.cells=True)/\∀(n:Nat)(xs:List jV),Go.Abs.Qv n (mp jV.cells xs)=True:=⟨fun n x=>eq_true (jV.nb n x),fun n xs=>eq_true (qi (jV.nb n) xs)⟩
def jV.vw(H:List kp)(x:jV):vwL H x.cells=some (x.cells,[]):=Qp H _ (jV.nb 0 x)
attribute [go_sem] jV.vw
theorem jV.frz(low:Nat)(H:List kp)(x:jV):al2 low H x.cells=x.cells:=M8 low H _ (jV.nb 0 x)
def jV.reads:
 (∀x:jV,cellsOf (.agg x.cells)=some x.cells)/\
 (∀x:jV,l8 true 4 x.cells=some (.agg x.cells))/\
 (∀x:jV,l8 false 1 x.cells=some (.lS false 1 (mp nh x.parts)))/\
 (∀x:jV,l8 false 1 (x.cells.drop 1)=some (.int .i64 x.mY))/\
 (∀x:jV,l8 false 1 (x.cells.drop 2)=some (.int .i64 x.Ck))/\
 (∀x:jV,l8 false 1 (x.cells.drop 3)=some (.str (sb x.target))):=
 ⟨fun x=>by simp only[cellsOf,jV.pL,jQ],
  fun x=>zC (jV.length x),
  fun x=>by rw[jV.kG];rfl,
  fun x=>by rw[jV.kG];rfl,
  fun x=>by rw[jV.kG];rfl,
  fun x=>by rw[jV.kG];rfl⟩
attribute [go_sem] jV.nbs jV.frz jV.reads jV.length jV.pL
structure kq where
 e:Int
 nE:Int
def kq.cells(x:kq):List AV:=[.int .i64 x.e,.int .i64 x.nE]
theorem kq.nV(x:kq):x.cells=[.int .i64 x.e,.int .i64 x.nE]:=rfl
theorem kq.kG(x:kq):x.cells=[.int .i64 x.e,.int .i64 x.nE]:=rfl
attribute [irreducible] kq.cells
theorem kq.length(x:kq):x.cells.length=2:=by rw[kq.kG];rfl
def kq.pL(x:kq):x.cells.all AV.pL=true:=by rw[kq.kG];rfl
theorem kq.nb(n:Nat)(x:kq):xB n x.cells:=by
 rw[kq.nV];exact⟨trivial,trivial,trivial⟩
def kq.of(H:List kp):List AV->Option kq
 |[c0,c1]=>(dI .i64 c0).bind fun x0=>(dI .i64 c1).bind fun x1=>some (.mk x0 x1)
 |_=>none
def kq.uk{c0 c1:AV}:kq.of H [c0,c1]=(dI .i64 c0).bind fun x0=>(dI .i64 c1).bind fun x1=>some (.mk x0 x1):=rfl
def kq.ot(H:List kp)(x:kq):kq.of H [.int .i64 x.e,.int .i64 x.nE]=some x:=by
 simp only[kq.uk,Nd,Gw,V5,vJ,IQ,beq_self_eq_true,eW,jK,dL]
 try (cases x;rfl)
theorem kq.qV(H:List kp)(x:kq):kq.of H x.cells=some x:=by rw[kq.kG];exact kq.ot H x
def kq.yq{x:kq}(h:kq.of H cs=some x):o9 H n cs x.cells:=by
 unfold kq.of at h;split at h
 ·simp only[eU,eV]at h;obtain⟨x0,h0,x1,h1,rfl⟩:=h;rw[kq.nV];exact(o9.cons (BF h0) (o9.cons (BF h1) o9.nil))
 ·cases h
def kq.ku:ZJ kq:=⟨kq.cells,kq.of,fun _ _ _ _ h=>kq.yq h,kq.nb⟩
def kq.row:Row kq:=⟨kq.cells,kq.of [],2,fun _ _ h=>(kq.yq (n:=0) h).qc,kq.nb⟩
def kq.HI:kq.row.enc=kq.cells/\kq.row.mL=kq.of []/\kq.row.sz=2/\kq.ku.enc=kq.cells/\kq.ku.mL=kq.of:=⟨rfl,rfl,rfl,rfl,rfl⟩
attribute [go_sem] kq.uk kq.qV kq.HI
def kq.prj:(∀(y0:Int)(y1:Int),(kq.mk y0 y1).e=y0)/\(∀(y0:Int)(y1:Int),(kq.mk y0 y1).nE=y1):=⟨fun _ _=>rfl,fun _ _=>rfl⟩
attribute [go_sem] kq.prj
def kq.abG:(∀(Y:Nat->Nat)(x:kq),sO Y x.cells=x.cells)/\∀(Y:Nat->Nat)(xs:List kq),Fg Y (mp kq.cells xs)=mp kq.cells xs:=⟨fun Y x=>sG Y _ (kq.nb 0 x),fun Y xs=>uM Y _ (qi (kq.nb 0) xs)⟩
def kq.vw(H:List kp)(x:kq):vwL H x.cells=some (x.cells,[]):=Qp H _ (kq.nb 0 x)
attribute [go_sem] kq.vw
def kq.reads:
 (∀x:kq,cellsOf (.agg x.cells)=some x.cells)/\
 (∀x:kq,l8 true 2 x.cells=some (.agg x.cells))/\
 (∀x:kq,l8 false 1 x.cells=some (.int .i64 x.e))/\
 (∀x:kq,l8 false 1 (x.cells.drop 1)=some (.int .i64 x.nE)):=
 ⟨fun x=>by simp only[cellsOf,kq.pL,jQ],
  fun x=>zC (kq.length x),
  fun x=>by rw[kq.kG];rfl,
  fun x=>by rw[kq.kG];rfl⟩
attribute [go_sem] kq.abG kq.reads kq.length kq.pL
structure jT where
 HJ:List kH
 i:Int
 base:Int
 rF:List jV
 oN:List Str
 depth:Int
 e:Int
 nE:Int
def jT.cells(x:jT):List AV:=[.lS false 3 (mp kH.cells x.HJ),.int .i64 x.i,.int .i64 x.base,.lS false 4 (mp jV.cells x.rF),.lS false 1 (mp nh x.oN),.int .i64 x.depth,.int .i64 x.e,.int .i64 x.nE]
theorem jT.nV(x:jT):x.cells=[.lS false 3 (mp kH.cells x.HJ),.int .i64 x.i,.int .i64 x.base,.lS false 4 (mp jV.cells x.rF),.lS false 1 (mp nh x.oN),.int .i64 x.depth,.int .i64 x.e,.int .i64 x.nE]:=rfl
theorem jT.kG(x:jT):x.cells=[.lS false 3 (mp kH.cells x.HJ),.int .i64 x.i,.int .i64 x.base,.lS false 4 (mp jV.cells x.rF),.lS false 1 (mp nh x.oN),.int .i64 x.depth,.int .i64 x.e,.int .i64 x.nE]:=rfl
attribute [irreducible] jT.cells
theorem jT.length(x:jT):x.cells.length=8:=by rw[jT.kG];rfl
def jT.pL(x:jT):x.cells.all AV.pL=true:=by rw[jT.kG];rfl
theorem jT.nb(n:Nat)(x:jT):xB n x.cells:=by
 rw[jT.nV];exact⟨qi (kH.nb n) _,trivial,trivial,qi (jV.nb n) _,qi (Wb n) _,trivial,trivial,trivial,trivial⟩
def jT.of(H:List kp):List AV->Option jT
 |[c0,c1,c2,c3,c4,c5,c6,c7]=>(dL kH.row H c0).bind fun x0=>(dI .i64 c1).bind fun x1=>(dI .i64 c2).bind fun x2=>(dL jV.row H c3).bind fun x3=>(dL mq H c4).bind fun x4=>(dI .i64 c5).bind fun x5=>(dI .i64 c6).bind fun x6=>(dI .i64 c7).bind fun x7=>some (.mk x0 x1 x2 x3 x4 x5 x6 x7)
 |_=>none
def jT.uk{c0 c1 c2 c3 c4 c5 c6 c7:AV}:jT.of H [c0,c1,c2,c3,c4,c5,c6,c7]=(dL kH.row H c0).bind fun x0=>(dI .i64 c1).bind fun x1=>(dI .i64 c2).bind fun x2=>(dL jV.row H c3).bind fun x3=>(dL mq H c4).bind fun x4=>(dI .i64 c5).bind fun x5=>(dI .i64 c6).bind fun x6=>(dI .i64 c7).bind fun x7=>some (.mk x0 x1 x2 x3 x4 x5 x6 x7):=rfl
def jT.ot(H:List kp)(x:jT):jT.of H [.lS false 3 (mp kH.cells x.HJ),.int .i64 x.i,.int .i64 x.base,.lS false 4 (mp jV.cells x.rF),.lS false 1 (mp nh x.oN),.int .i64 x.depth,.int .i64 x.e,.int .i64 x.nE]=some x:=by
 simp only[jT.uk,Nd,Gw,V5,vJ,IQ,beq_self_eq_true,eW,jK,dL,jV.qQ,jV.row,kH.qQ,kH.row,Ft,aga]
 try (cases x;rfl)
theorem jT.qV(H:List kp)(x:jT):jT.of H x.cells=some x:=by rw[jT.kG];exact jT.ot H x
def jT.yq{x:jT}(h:jT.of H cs=some x):o9 H n cs x.cells:=by
 unfold jT.of at h;split at h
 ·simp only[eU,eV]at h;obtain⟨x0,h0,x1,h1,x2,h2,x3,h3,x4,h4,x5,h5,x6,h6,x7,h7,rfl⟩:=h;rw[jT.nV];exact(o9.cons (Me h0) (o9.cons (BF h1) (o9.cons (BF h2) (o9.cons (Me h3) (o9.cons (Me h4) (o9.cons (BF h5) (o9.cons (BF h6) (o9.cons (BF h7) o9.nil))))))))
 ·cases h
def jT.ku:ZJ jT:=⟨jT.cells,jT.of,fun _ _ _ _ h=>jT.yq h,jT.nb⟩
def jT.row:Row jT:=⟨jT.cells,jT.of [],8,fun _ _ h=>(jT.yq (n:=0) h).qc,jT.nb⟩
def jT.HI:jT.row.enc=jT.cells/\jT.row.mL=jT.of []/\jT.row.sz=8/\jT.ku.enc=jT.cells/\jT.ku.mL=jT.of:=⟨rfl,rfl,rfl,rfl,rfl⟩
attribute [go_sem] jT.uk jT.qV jT.HI
def jT.prj:(∀(y0:List kH)(y1:Int)(y2:Int)(y3:List jV)(y4:List Str)(y5:Int)(y6:Int)(y7:Int),(jT.mk y0 y1 y2 y3 y4 y5 y6 y7).HJ=y0)/\(∀(y0:List kH)(y1:Int)(y2:Int)(y3:List jV)(y4:List Str)(y5:Int)(y6:Int)(y7:Int),(jT.mk y0 y1 y2 y3 y4 y5 y6 y7).i=y1)/\(∀(y0:List kH)(y1:Int)(y2:Int)(y3:List jV)(y4:List Str)(y5:Int)(y6:Int)(y7:Int),(jT.mk y0 y1 y2 y3 y4 y5 y6 y7).base=y2)/\(∀(y0:List kH)(y1:Int)(y2:Int)(y3:List jV)(y4:List Str)(y5:Int)(y6:Int)(y7:Int),(jT.mk y0 y1 y2 y3 y4 y5 y6 y7).rF=y3)/\(∀(y0:List kH)(y1:Int)(y2:Int)(y3:List jV)(y4:List Str)(y5:Int)(y6:Int)(y7:Int),(jT.mk y0 y1 y2 y3 y4 y5 y6 y7).oN=y4)/\(∀(y0:List kH)(y1:Int)(y2:Int)(y3:List jV)(y4:List Str)(y5:Int)(y6:Int)(y7:Int),(jT.mk y0 y1 y2 y3 y4 y5 y6 y7).depth=y5)/\(∀(y0:List kH)(y1:Int)(y2:Int)(y3:List jV)(y4:List Str)(y5:Int)(y6:Int)(y7:Int),(jT.mk y0 y1 y2 y3 y4 y5 y6 y7).e=y6)/\(∀(y0:List kH)(y1:Int)(y2:Int)(y3:List jV)(y4:List Str)(y5:Int)(y6:Int)(y7:Int),(jT.mk y0 y1 y2 y3 y4 y5 y6 y7).nE=y7):=⟨fun _ _ _ _ _ _ _ _=>rfl,fun _ _ _ _ _ _ _ _=>rfl,fun _ _ _ _ _ _ _ _=>rfl,fun _ _ _ _ _ _ _ _=>rfl,fun _ _ _ _ _ _ _ _=>rfl,fun _ _ _ _ _ _ _ _=>rfl,fun _ _ _ _ _ _ _ _=>rfl,fun _ _ _ _ _ _ _ _=>rfl⟩
attribute [go_sem] jT.prj
def jT.nbs:(∀(n:Nat)(x:jT),Go.Abs.xB n x.cells=True)/\∀(n:Nat)(xs:List jT),Go.Abs.Qv n (mp jT.cells xs)=True:=⟨fun n x=>eq_true (jT.nb n x),fun n xs=>eq_true (qi (jT.nb n) xs)⟩
def jT.abG:(∀(Y:Nat->Nat)(x:jT),sO Y x.cells=x.cells)/\∀(Y:Nat->Nat)(xs:List jT),Fg Y (mp jT.cells xs)=mp jT.cells xs:=⟨fun Y x=>sG Y _ (jT.nb 0 x),fun Y xs=>uM Y _ (qi (jT.nb 0) xs)⟩
def jT.tk:(∀x:jT,List.take 8 x.cells=x.cells)/\∀x:jT,List.drop 8 x.cells=[]:=⟨fun x=>by rw[jT.kG];rfl,fun x=>by rw[jT.kG];rfl⟩
attribute [go_sem] jT.tk
def jT.reads:
 (∀x:jT,cellsOf (.agg x.cells)=some x.cells)/\
 (∀x:jT,l8 true 8 x.cells=some (.agg x.cells))/\
 (∀x:jT,l8 false 1 x.cells=some (.lS false 3 (mp kH.cells x.HJ)))/\
 (∀x:jT,l8 false 1 (x.cells.drop 1)=some (.int .i64 x.i))/\
 (∀x:jT,l8 false 1 (x.cells.drop 2)=some (.int .i64 x.base))/\
 (∀x:jT,l8 false 1 (x.cells.drop 3)=some (.lS false 4 (mp jV.cells x.rF)))/\
 (∀x:jT,l8 false 1 (x.cells.drop 4)=some (.lS false 1 (mp nh x.oN)))/\
 (∀x:jT,l8 false 1 (x.cells.drop 5)=some (.int .i64 x.depth))/\
 (∀x:jT,l8 false 1 (x.cells.drop 6)=some (.int .i64 x.e))/\
 (∀x:jT,l8 false 1 (x.cells.drop 7)=some (.int .i64 x.nE)):=
 ⟨fun x=>by simp only[cellsOf,jT.pL,jQ],
  fun x=>zC (jT.length x),
  fun x=>by rw[jT.kG];rfl,
  fun x=>by rw[jT.kG];rfl,
  fun x=>by rw[jT.kG];rfl,
  fun x=>by rw[jT.kG];rfl,
  fun x=>by rw[jT.kG];rfl,
  fun x=>by rw[jT.kG];rfl,
  fun x=>by rw[jT.kG];rfl,
  fun x=>by rw[jT.kG];rfl⟩
def jT.amO(x:jT)(o:Nat)(xs:List AV):uL x.cells o xs=uL [.lS false 3 (mp kH.cells x.HJ),.int .i64 x.i,.int .i64 x.base,.lS false 4 (mp jV.cells x.rF),.lS false 1 (mp nh x.oN),.int .i64 x.depth,.int .i64 x.e,.int .i64 x.nE] o xs:=by rw[jT.kG]
attribute [go_sem] jT.nbs jT.abG jT.reads jT.length jT.pL
attribute [go_sem low] jT.amO
structure kv where
 Ey:List kH
 next:Int
 base:Int
def kv.cells(x:kv):List AV:=[.lS false 3 (mp kH.cells x.Ey),.int .i64 x.next,.int .i64 x.base]
theorem kv.nV(x:kv):x.cells=[.lS false 3 (mp kH.cells x.Ey),.int .i64 x.next,.int .i64 x.base]:=rfl
theorem kv.kG(x:kv):x.cells=[.lS false 3 (mp kH.cells x.Ey),.int .i64 x.next,.int .i64 x.base]:=rfl
attribute [irreducible] kv.cells
theorem kv.length(x:kv):x.cells.length=3:=by rw[kv.kG];rfl
def kv.pL(x:kv):x.cells.all AV.pL=true:=by rw[kv.kG];rfl
theorem kv.nb(n:Nat)(x:kv):xB n x.cells:=by
 rw[kv.nV];exact⟨qi (kH.nb n) _,trivial,trivial,trivial⟩
def kv.of(H:List kp):List AV->Option kv
 |[c0,c1,c2]=>(dL kH.row H c0).bind fun x0=>(dI .i64 c1).bind fun x1=>(dI .i64 c2).bind fun x2=>some (.mk x0 x1 x2)
 |_=>none
def kv.uk{c0 c1 c2:AV}:kv.of H [c0,c1,c2]=(dL kH.row H c0).bind fun x0=>(dI .i64 c1).bind fun x1=>(dI .i64 c2).bind fun x2=>some (.mk x0 x1 x2):=rfl
def kv.ot(H:List kp)(x:kv):kv.of H [.lS false 3 (mp kH.cells x.Ey),.int .i64 x.next,.int .i64 x.base]=some x:=by
 simp only[kv.uk,Nd,Gw,V5,vJ,IQ,beq_self_eq_true,eW,jK,dL,kH.qQ,kH.row]
 try (cases x;rfl)
def kv.yq{x:kv}(h:kv.of H cs=some x):o9 H n cs x.cells:=by
 unfold kv.of at h;split at h
 ·simp only[eU,eV]at h;obtain⟨x0,h0,x1,h1,x2,h2,rfl⟩:=h;rw[kv.nV];exact(o9.cons (Me h0) (o9.cons (BF h1) (o9.cons (BF h2) o9.nil)))
 ·cases h
def kv.ku:ZJ kv:=⟨kv.cells,kv.of,fun _ _ _ _ h=>kv.yq h,kv.nb⟩
def kv.row:Row kv:=⟨kv.cells,kv.of [],3,fun _ _ h=>(kv.yq (n:=0) h).qc,kv.nb⟩
def kv.HI:kv.row.enc=kv.cells/\kv.row.mL=kv.of []/\kv.row.sz=3/\kv.ku.enc=kv.cells/\kv.ku.mL=kv.of:=⟨rfl,rfl,rfl,rfl,rfl⟩
def kv.eta(x:kv):kv.mk x.Ey x.next x.base=x:=by cases x;rfl
attribute [go_sem] kv.uk kv.HI kv.eta
def kv.prj:(∀(y0:List kH)(y1:Int)(y2:Int),(kv.mk y0 y1 y2).Ey=y0)/\(∀(y0:List kH)(y1:Int)(y2:Int),(kv.mk y0 y1 y2).next=y1)/\(∀(y0:List kH)(y1:Int)(y2:Int),(kv.mk y0 y1 y2).base=y2):=⟨fun _ _ _=>rfl,fun _ _ _=>rfl,fun _ _ _=>rfl⟩
attribute [go_sem] kv.prj
def kv.abG:(∀(Y:Nat->Nat)(x:kv),sO Y x.cells=x.cells)/\∀(Y:Nat->Nat)(xs:List kv),Fg Y (mp kv.cells xs)=mp kv.cells xs:=⟨fun Y x=>sG Y _ (kv.nb 0 x),fun Y xs=>uM Y _ (qi (kv.nb 0) xs)⟩
def kv.reads:
 (∀x:kv,cellsOf (.agg x.cells)=some x.cells)/\
 (∀x:kv,l8 true 3 x.cells=some (.agg x.cells))/\
 (∀x:kv,l8 false 1 x.cells=some (.lS false 3 (mp kH.cells x.Ey)))/\
 (∀x:kv,l8 false 1 (x.cells.drop 1)=some (.int .i64 x.next))/\
 (∀x:kv,l8 false 1 (x.cells.drop 2)=some (.int .i64 x.base)):=
 ⟨fun x=>by simp only[cellsOf,kv.pL,jQ],
  fun x=>zC (kv.length x),
  fun x=>by rw[kv.kG];rfl,
  fun x=>by rw[kv.kG];rfl,
  fun x=>by rw[kv.kG];rfl⟩
theorem kv.app(x:kv)(l:List AV):x.cells++l=(.lS false 3 (mp kH.cells x.Ey):AV)::(.int .i64 x.next:AV)::(.int .i64 x.base:AV)::l:=by rw[kv.kG];rfl
attribute [go_sem] kv.app kv.abG kv.reads kv.length kv.pL
structure jU where
 ul:kv
 rF:List jV
 oN:List Str
 depth:Int
def jU.cells(x:jU):List AV:=x.ul.cells++[.lS false 4 (mp jV.cells x.rF),.lS false 1 (mp nh x.oN),.int .i64 x.depth]
theorem jU.nV(x:jU):x.cells=x.ul.cells++[.lS false 4 (mp jV.cells x.rF),.lS false 1 (mp nh x.oN),.int .i64 x.depth]:=rfl
theorem jU.kG(x:jU):x.cells=[.lS false 3 (mp kH.cells x.ul.Ey),.int .i64 x.ul.next,.int .i64 x.ul.base,.lS false 4 (mp jV.cells x.rF),.lS false 1 (mp nh x.oN),.int .i64 x.depth]:=by
 simp only[jU.cells,kv.kG,List.cons_append,List.nil_append,List.append_nil]
attribute [irreducible] jU.cells
theorem jU.length(x:jU):x.cells.length=6:=by rw[jU.kG];rfl
def jU.pL(x:jU):x.cells.all AV.pL=true:=by rw[jU.kG];rfl
theorem jU.nb(n:Nat)(x:jU):xB n x.cells:=by
 rw[jU.nV];exact(M7 (kv.nb n x.ul) ⟨qi (jV.nb n) _,qi (Wb n) _,trivial,trivial⟩)
def jU.of(H:List kp):List AV->Option jU
 |[c0,c1,c2,c3,c4,c5]=>(kv.of H [c0,c1,c2]).bind fun x0=>(dL jV.row H c3).bind fun x1=>(dL mq H c4).bind fun x2=>(dI .i64 c5).bind fun x3=>some (.mk x0 x1 x2 x3)
 |_=>none
def jU.uk{c0 c1 c2 c3 c4 c5:AV}:jU.of H [c0,c1,c2,c3,c4,c5]=(kv.of H [c0,c1,c2]).bind fun x0=>(dL jV.row H c3).bind fun x1=>(dL mq H c4).bind fun x2=>(dI .i64 c5).bind fun x3=>some (.mk x0 x1 x2 x3):=rfl
def jU.ot(H:List kp)(x:jU):jU.of H [.lS false 3 (mp kH.cells x.ul.Ey),.int .i64 x.ul.next,.int .i64 x.ul.base,.lS false 4 (mp jV.cells x.rF),.lS false 1 (mp nh x.oN),.int .i64 x.depth]=some x:=by
 simp only[jU.uk,Nd,Gw,V5,vJ,IQ,beq_self_eq_true,eW,jK,dL,jV.qQ,jV.row,Ft,aga,kv.ot]
 try (cases x;rfl)
theorem jU.qV(H:List kp)(x:jU):jU.of H x.cells=some x:=by rw[jU.kG];exact jU.ot H x
def jU.yq{x:jU}(h:jU.of H cs=some x):o9 H n cs x.cells:=by
 unfold jU.of at h;split at h
 ·simp only[eU,eV]at h;obtain⟨x0,h0,x1,h1,x2,h2,x3,h3,rfl⟩:=h;rw[jU.nV];exact(o9.append (kv.yq h0) (o9.cons (Me h1) (o9.cons (Me h2) (o9.cons (BF h3) o9.nil))))
 ·cases h
def jU.ku:ZJ jU:=⟨jU.cells,jU.of,fun _ _ _ _ h=>jU.yq h,jU.nb⟩
def jU.row:Row jU:=⟨jU.cells,jU.of [],6,fun _ _ h=>(jU.yq (n:=0) h).qc,jU.nb⟩
def jU.HI:jU.row.enc=jU.cells/\jU.row.mL=jU.of []/\jU.row.sz=6/\jU.ku.enc=jU.cells/\jU.ku.mL=jU.of:=⟨rfl,rfl,rfl,rfl,rfl⟩
attribute [go_sem] jU.uk jU.qV jU.HI
def jU.prj:(∀(y0:kv)(y1:List jV)(y2:List Str)(y3:Int),(jU.mk y0 y1 y2 y3).ul=y0)/\(∀(y0:kv)(y1:List jV)(y2:List Str)(y3:Int),(jU.mk y0 y1 y2 y3).rF=y1)/\(∀(y0:kv)(y1:List jV)(y2:List Str)(y3:Int),(jU.mk y0 y1 y2 y3).oN=y2)/\(∀(y0:kv)(y1:List jV)(y2:List Str)(y3:Int),(jU.mk y0 y1 y2 y3).depth=y3):=⟨fun _ _ _ _=>rfl,fun _ _ _ _=>rfl,fun _ _ _ _=>rfl,fun _ _ _ _=>rfl⟩
attribute [go_sem] jU.prj
def jU.nbs:(∀(n:Nat)(x:jU),Go.Abs.xB n x.cells=True)/\∀(n:Nat)(xs:List jU),Go.Abs.Qv n (mp jU.cells xs)=True:=⟨fun n x=>eq_true (jU.nb n x),fun n xs=>eq_true (qi (jU.nb n) xs)⟩
def jU.abG:(∀(Y:Nat->Nat)(x:jU),sO Y x.cells=x.cells)/\∀(Y:Nat->Nat)(xs:List jU),Fg Y (mp jU.cells xs)=mp jU.cells xs:=⟨fun Y x=>sG Y _ (jU.nb 0 x),fun Y xs=>uM Y _ (qi (jU.nb 0) xs)⟩
def jU.tk:(∀x:jU,List.take 6 x.cells=x.cells)/\∀x:jU,List.drop 6 x.cells=[]:=⟨fun x=>by rw[jU.kG];rfl,fun x=>by rw[jU.kG];rfl⟩
attribute [go_sem] jU.tk
def jU.reads:
 (∀x:jU,cellsOf (.agg x.cells)=some x.cells)/\
 (∀x:jU,l8 true 6 x.cells=some (.agg x.cells))/\
 (∀x:jU,l8 false 1 x.cells=some (.lS false 3 (mp kH.cells x.ul.Ey)))/\
 (∀x:jU,l8 false 1 (x.cells.drop 1)=some (.int .i64 x.ul.next))/\
 (∀x:jU,l8 false 1 (x.cells.drop 2)=some (.int .i64 x.ul.base))/\
 (∀x:jU,l8 false 1 (x.cells.drop 3)=some (.lS false 4 (mp jV.cells x.rF)))/\
 (∀x:jU,l8 false 1 (x.cells.drop 4)=some (.lS false 1 (mp nh x.oN)))/\
 (∀x:jU,l8 false 1 (x.cells.drop 5)=some (.int .i64 x.depth))/\
 (∀x:jU,l8 true 3 x.cells=some (.agg x.ul.cells)):=
 ⟨fun x=>by simp only[cellsOf,jU.pL,jQ],
  fun x=>zC (jU.length x),
  fun x=>by rw[jU.kG];rfl,
  fun x=>by rw[jU.kG];rfl,
  fun x=>by rw[jU.kG];rfl,
  fun x=>by rw[jU.kG];rfl,
  fun x=>by rw[jU.kG];rfl,
  fun x=>by rw[jU.kG];rfl,
  fun x=>by rw[jU.kG];simp only[kv.kG,List.drop_succ_cons,List.drop_zero];rfl⟩
def jU.amO(x:jU)(o:Nat)(xs:List AV):uL x.cells o xs=uL [.lS false 3 (mp kH.cells x.ul.Ey),.int .i64 x.ul.next,.int .i64 x.ul.base,.lS false 4 (mp jV.cells x.rF),.lS false 1 (mp nh x.oN),.int .i64 x.depth] o xs:=by rw[jU.kG]
attribute [go_sem] jU.nbs jU.abG jU.reads jU.length jU.pL
attribute [go_sem low] jU.amO
structure kg where
 name:Str
 t:Syntax
def kg.cells(x:kg):List AV:=[.str (sb x.name)]++x.t.cells
theorem kg.nV(x:kg):x.cells=[.str (sb x.name)]++x.t.cells:=rfl
theorem kg.kG(x:kg):x.cells=[.str (sb x.name),.int .i64 x.t.kind,.str (sb x.t.text),.int .i64 x.t.num,.lS false 1 (mp nh x.t.oe),.lS false 2 (mp j7.cells x.t.sW),.lS false 8 (mp Syntax.cells x.t.vE),.int .i64 x.t.k9,.int .i64 x.t.to]:=by
 simp only[kg.cells,Syntax.kG,List.cons_append,List.nil_append,List.append_nil]
attribute [irreducible] kg.cells
theorem kg.length(x:kg):x.cells.length=9:=by rw[kg.kG];rfl
def kg.pL(x:kg):x.cells.all AV.pL=true:=by rw[kg.kG];rfl
theorem kg.nb(n:Nat)(x:kg):xB n x.cells:=by
 rw[kg.nV];exact(M7 ⟨trivial,trivial⟩ (Syntax.nb n x.t))
def kg.of(H:List kp):List AV->Option kg
 |[c0,c1,c2,c3,c4,c5,c6,c7,c8]=>(dS c0).bind fun x0=>(Syntax.of H [c1,c2,c3,c4,c5,c6,c7,c8]).bind fun x1=>some (.mk x0 x1)
 |_=>none
def kg.uk{c0 c1 c2 c3 c4 c5 c6 c7 c8:AV}:kg.of H [c0,c1,c2,c3,c4,c5,c6,c7,c8]=(dS c0).bind fun x0=>(Syntax.of H [c1,c2,c3,c4,c5,c6,c7,c8]).bind fun x1=>some (.mk x0 x1):=rfl
def kg.ot(H:List kp)(x:kg):kg.of H [.str (sb x.name),.int .i64 x.t.kind,.str (sb x.t.text),.int .i64 x.t.num,.lS false 1 (mp nh x.t.oe),.lS false 2 (mp j7.cells x.t.sW),.lS false 8 (mp Syntax.cells x.t.vE),.int .i64 x.t.k9,.int .i64 x.t.to]=some x:=by
 simp only[kg.uk,Nd,Gw,V5,vJ,IQ,beq_self_eq_true,eW,jK,dL,Syntax.ot]
 try (cases x;rfl)
theorem kg.qV(H:List kp)(x:kg):kg.of H x.cells=some x:=by rw[kg.kG];exact kg.ot H x
def kg.yq{x:kg}(h:kg.of H cs=some x):o9 H n cs x.cells:=by
 unfold kg.of at h;split at h
 ·simp only[eU,eV]at h;obtain⟨x0,h0,x1,h1,rfl⟩:=h;rw[kg.nV];exact(o9.append (o9.cons (ahr h0) o9.nil) (Syntax.yq h1))
 ·cases h
def kg.ku:ZJ kg:=⟨kg.cells,kg.of,fun _ _ _ _ h=>kg.yq h,kg.nb⟩
def kg.row:Row kg:=⟨kg.cells,kg.of [],9,fun _ _ h=>(kg.yq (n:=0) h).qc,kg.nb⟩
def kg.qQ(xs:List kg):so (kg.of []) (mp kg.cells xs)=some xs:=Iw (kg.qV []) xs
def kg.HI:kg.row.enc=kg.cells/\kg.row.mL=kg.of []/\kg.row.sz=9/\kg.ku.enc=kg.cells/\kg.ku.mL=kg.of:=⟨rfl,rfl,rfl,rfl,rfl⟩
attribute [go_sem] kg.uk kg.qV kg.qQ kg.HI
def kg.prj:(∀(y0:Str)(y1:Syntax),(kg.mk y0 y1).name=y0)/\(∀(y0:Str)(y1:Syntax),(kg.mk y0 y1).t=y1):=⟨fun _ _=>rfl,fun _ _=>rfl⟩
attribute [go_sem] kg.prj
def kg.nbs:(∀(n:Nat)(x:kg),Go.Abs.xB n x.cells=True)/\∀(n:Nat)(xs:List kg),Go.Abs.Qv n (mp kg.cells xs)=True:=⟨fun n x=>eq_true (kg.nb n x),fun n xs=>eq_true (qi (kg.nb n) xs)⟩
def kg.abG:(∀(Y:Nat->Nat)(x:kg),sO Y x.cells=x.cells)/\∀(Y:Nat->Nat)(xs:List kg),Fg Y (mp kg.cells xs)=mp kg.cells xs:=⟨fun Y x=>sG Y _ (kg.nb 0 x),fun Y xs=>uM Y _ (qi (kg.nb 0) xs)⟩
def kg.reads:
 (∀x:kg,cellsOf (.agg x.cells)=some x.cells)/\
 (∀x:kg,l8 true 9 x.cells=some (.agg x.cells))/\
 (∀x:kg,l8 false 1 x.cells=some (.str (sb x.name)))/\
 (∀x:kg,l8 false 1 (x.cells.drop 1)=some (.int .i64 x.t.kind))/\
 (∀x:kg,l8 false 1 (x.cells.drop 2)=some (.str (sb x.t.text)))/\
 (∀x:kg,l8 false 1 (x.cells.drop 3)=some (.int .i64 x.t.num))/\
 (∀x:kg,l8 false 1 (x.cells.drop 4)=some (.lS false 1 (mp nh x.t.oe)))/\
 (∀x:kg,l8 false 1 (x.cells.drop 5)=some (.lS false 2 (mp j7.cells x.t.sW)))/\
 (∀x:kg,l8 false 1 (x.cells.drop 6)=some (.lS false 8 (mp Syntax.cells x.t.vE)))/\
 (∀x:kg,l8 false 1 (x.cells.drop 7)=some (.int .i64 x.t.k9))/\
 (∀x:kg,l8 false 1 (x.cells.drop 8)=some (.int .i64 x.t.to))/\
 (∀x:kg,l8 true 8 (x.cells.drop 1)=some (.agg x.t.cells)):=
 ⟨fun x=>by simp only[cellsOf,kg.pL,jQ],
  fun x=>zC (kg.length x),
  fun x=>by rw[kg.kG];rfl,
  fun x=>by rw[kg.kG];rfl,
  fun x=>by rw[kg.kG];rfl,
  fun x=>by rw[kg.kG];rfl,
  fun x=>by rw[kg.kG];rfl,
  fun x=>by rw[kg.kG];rfl,
  fun x=>by rw[kg.kG];rfl,
  fun x=>by rw[kg.kG];rfl,
  fun x=>by rw[kg.kG];rfl,
  fun x=>by rw[kg.kG];simp only[Syntax.kG,List.drop_succ_cons,List.drop_zero];rfl⟩
attribute [go_sem] kg.nbs kg.abG kg.reads kg.length kg.pL
structure kj where
 rF:List jV
 l:List Syntax
 nE:Int
 D5:Bool
def kj.cells(x:kj):List AV:=[.lS false 4 (mp jV.cells x.rF),.lS false 8 (mp Syntax.cells x.l),.int .i64 x.nE,.bool x.D5]
theorem kj.nV(x:kj):x.cells=[.lS false 4 (mp jV.cells x.rF),.lS false 8 (mp Syntax.cells x.l),.int .i64 x.nE,.bool x.D5]:=rfl
theorem kj.kG(x:kj):x.cells=[.lS false 4 (mp jV.cells x.rF),.lS false 8 (mp Syntax.cells x.l),.int .i64 x.nE,.bool x.D5]:=rfl
attribute [irreducible] kj.cells
theorem kj.length(x:kj):x.cells.length=4:=by rw[kj.kG];rfl
def kj.pL(x:kj):x.cells.all AV.pL=true:=by rw[kj.kG];rfl
theorem kj.nb(n:Nat)(x:kj):xB n x.cells:=by
 rw[kj.nV];exact⟨qi (jV.nb n) _,qi (Syntax.nb n) _,trivial,trivial,trivial⟩
def kj.of(H:List kp):List AV->Option kj
 |[c0,c1,c2,c3]=>(dL jV.row H c0).bind fun x0=>(dL Syntax.row H c1).bind fun x1=>(dI .i64 c2).bind fun x2=>(dB c3).bind fun x3=>some (.mk x0 x1 x2 x3)
 |_=>none
def kj.uk{c0 c1 c2 c3:AV}:kj.of H [c0,c1,c2,c3]=(dL jV.row H c0).bind fun x0=>(dL Syntax.row H c1).bind fun x1=>(dI .i64 c2).bind fun x2=>(dB c3).bind fun x3=>some (.mk x0 x1 x2 x3):=rfl
def kj.ot(H:List kp)(x:kj):kj.of H [.lS false 4 (mp jV.cells x.rF),.lS false 8 (mp Syntax.cells x.l),.int .i64 x.nE,.bool x.D5]=some x:=by
 simp only[kj.uk,Nd,Gw,V5,vJ,IQ,beq_self_eq_true,eW,jK,dL,jV.qQ,jV.row,Syntax.qQ,Syntax.row]
 try (cases x;rfl)
theorem kj.qV(H:List kp)(x:kj):kj.of H x.cells=some x:=by rw[kj.kG];exact kj.ot H x
def kj.yq{x:kj}(h:kj.of H cs=some x):o9 H n cs x.cells:=by
 unfold kj.of at h;split at h
 ·simp only[eU,eV]at h;obtain⟨x0,h0,x1,h1,x2,h2,x3,h3,rfl⟩:=h;rw[kj.nV];exact(o9.cons (Me h0) (o9.cons (Me h1) (o9.cons (BF h2) (o9.cons (as9 h3) o9.nil))))
 ·cases h
def kj.ku:ZJ kj:=⟨kj.cells,kj.of,fun _ _ _ _ h=>kj.yq h,kj.nb⟩
def kj.row:Row kj:=⟨kj.cells,kj.of [],4,fun _ _ h=>(kj.yq (n:=0) h).qc,kj.nb⟩
def kj.HI:kj.row.enc=kj.cells/\kj.row.mL=kj.of []/\kj.row.sz=4/\kj.ku.enc=kj.cells/\kj.ku.mL=kj.of:=⟨rfl,rfl,rfl,rfl,rfl⟩
attribute [go_sem] kj.uk kj.qV kj.HI
def kj.prj:(∀(y0:List jV)(y1:List Syntax)(y2:Int)(y3:Bool),(kj.mk y0 y1 y2 y3).rF=y0)/\(∀(y0:List jV)(y1:List Syntax)(y2:Int)(y3:Bool),(kj.mk y0 y1 y2 y3).l=y1)/\(∀(y0:List jV)(y1:List Syntax)(y2:Int)(y3:Bool),(kj.mk y0 y1 y2 y3).nE=y2)/\(∀(y0:List jV)(y1:List Syntax)(y2:Int)(y3:Bool),(kj.mk y0 y1 y2 y3).D5=y3):=⟨fun _ _ _ _=>rfl,fun _ _ _ _=>rfl,fun _ _ _ _=>rfl,fun _ _ _ _=>rfl⟩
attribute [go_sem] kj.prj
def kj.abG:(∀(Y:Nat->Nat)(x:kj),sO Y x.cells=x.cells)/\∀(Y:Nat->Nat)(xs:List kj),Fg Y (mp kj.cells xs)=mp kj.cells xs:=⟨fun Y x=>sG Y _ (kj.nb 0 x),fun Y xs=>uM Y _ (qi (kj.nb 0) xs)⟩
def kj.tk:(∀x:kj,List.take 4 x.cells=x.cells)/\∀x:kj,List.drop 4 x.cells=[]:=⟨fun x=>by rw[kj.kG];rfl,fun x=>by rw[kj.kG];rfl⟩
attribute [go_sem] kj.tk
def kj.reads:
 (∀x:kj,cellsOf (.agg x.cells)=some x.cells)/\
 (∀x:kj,l8 true 4 x.cells=some (.agg x.cells))/\
 (∀x:kj,l8 false 1 x.cells=some (.lS false 4 (mp jV.cells x.rF)))/\
 (∀x:kj,l8 false 1 (x.cells.drop 1)=some (.lS false 8 (mp Syntax.cells x.l)))/\
 (∀x:kj,l8 false 1 (x.cells.drop 2)=some (.int .i64 x.nE))/\
 (∀x:kj,l8 false 1 (x.cells.drop 3)=some (.bool x.D5)):=
 ⟨fun x=>by simp only[cellsOf,kj.pL,jQ],
  fun x=>zC (kj.length x),
  fun x=>by rw[kj.kG];rfl,
  fun x=>by rw[kj.kG];rfl,
  fun x=>by rw[kj.kG];rfl,
  fun x=>by rw[kj.kG];rfl⟩
def kj.amO(x:kj)(o:Nat)(xs:List AV):uL x.cells o xs=uL [.lS false 4 (mp jV.cells x.rF),.lS false 8 (mp Syntax.cells x.l),.int .i64 x.nE,.bool x.D5] o xs:=by rw[kj.kG]
attribute [go_sem] kj.abG kj.reads kj.length kj.pL
attribute [go_sem low] kj.amO
open Go.Proofs
def tf0:
 qB eT 1=some (false,1)/\
 oQ eT 1=none/\
 pX eT 1=some [.uE .nilFunc]/\
 vz eT 1=false/\
 pK eT 1=true/\
 si eT 1=true/\
 qB eT 3=some (false,1)/\
 oQ eT 3=none/\
 pX eT 3=some [.int .i64 0]/\
 vz eT 3=false/\
 aqb eT 3=some .i64/\
 pK eT 3=false/\
 si eT 3=true/\
 qB eT 4=some (false,1)/\
 oQ eT 4=none/\
 pX eT 4=some [.bool false]/\
 vz eT 4=false/\
 pK eT 4=true/\
 si eT 4=true/\
 qB eT 5=some (false,1)/\
 oQ eT 5=none/\
 pX eT 5=some [.int .u8 0]/\
 vz eT 5=false/\
 aqb eT 5=some .u8/\
 pK eT 5=false/\
 si eT 5=true/\
 qB eT 9=some (false,1)/\
 oQ eT 9=none/\
 pX eT 9=some [.str eX]/\
 vz eT 9=true/\
 aqb eT 9=none/\
 pK eT 9=true/\
 si eT 9=true/\
 qB eT 20=some (false,1)/\
 oQ eT 20=none/\
 pX eT 20=some [.uE .nilIface]/\
 vz eT 20=false/\
 pK eT 20=true/\
 si eT 20=false/\
 qB eT 21=some (false,1)/\
 oQ eT 21=none/\
 pX eT 21=some [.int .i32 0]/\
 vz eT 21=false/\
 aqb eT 21=some .i32/\
 pK eT 21=false/\
 si eT 21=true/\
 qB eT 22=some (false,1)/\
 oQ eT 22=some (53,4,56)/\
 pX eT 22=some [.lS true 0 []]/\
 vz eT 22=false/\
 pK eT 22=true/\
 si eT 22=true/\
 qB eT 25=some (false,1)/\
 oQ eT 25=some (9,1,16)/\
 pX eT 25=some [.lS true 0 []]/\
 vz eT 25=false/\
 pK eT 25=true/\
 si eT 25=true/\
 qB eT 26=some (false,1)/\
 oQ eT 26=some (80,2,32)/\
 pX eT 26=some [.lS true 0 []]/\
 vz eT 26=false/\
 pK eT 26=true/\
 si eT 26=true/\
 qB eT 27=some (false,1)/\
 oQ eT 27=some (29,8,120)/\
 pX eT 27=some [.lS true 0 []]/\
 vz eT 27=false/\
 pK eT 27=true/\
 si eT 27=true/\
 qB eT 29=some (true,8)/\
 Be eT 29=true/\
 vH eT 29 0=some (0,3)/\
 nB eT 29 0=some (0,1)/\
 vH eT 29 1=some (1,9)/\
 nB eT 29 1=some (1,1)/\
 vH eT 29 2=some (2,3)/\
 nB eT 29 2=some (2,1)/\
 vH eT 29 3=some (3,25)/\
 nB eT 29 3=some (3,1)/\
 vH eT 29 4=some (4,26)/\
 nB eT 29 4=some (4,1)/\
 vH eT 29 5=some (5,27)/\
 nB eT 29 5=some (5,1)/\
 vH eT 29 6=some (6,3)/\
 nB eT 29 6=some (6,1)/\
 vH eT 29 7=some (7,3)/\
 nB eT 29 7=some (7,1)/\
 oQ eT 29=none/\
 pX eT 29=some [.int .i64 0,.str eX,.int .i64 0,.lS true 0 [],.lS true 0 [],.lS true 0 [],.int .i64 0,.int .i64 0]/\
 vz eT 29=false/\
 pK eT 29=true/\
 si eT 29=true/\
 qB eT 30=some (false,1)/\
 oQ eT 30=none/\
 pX eT 30=some [.int .i64 0]/\
 vz eT 30=false/\
 aqb eT 30=some .i64/\
 pK eT 30=false/\
 si eT 30=true/\
 qB eT 39=some (false,1)/\
 oQ eT 39=none/\
 pX eT 39=some [.uE .nilFunc]/\
 vz eT 39=false/\
 pK eT 39=true/\
 si eT 39=true/\
 qB eT 40=some (false,1)/\
 oQ eT 40=some (45,3,32)/\
 pX eT 40=some [.lS true 0 []]/\
 vz eT 40=false/\
 pK eT 40=true/\
 si eT 40=true/\
 qB eT 45=some (true,3)/\
 Be eT 45=true/\
 vH eT 45 0=some (0,3)/\
 nB eT 45 0=some (0,1)/\
 vH eT 45 1=some (1,9)/\
 nB eT 45 1=some (1,1)/\
 vH eT 45 2=some (2,3)/\
 nB eT 45 2=some (2,1):=
 ⟨jR,jR,jR,jR,jR,jR,jR,jR,jR,jR,jR,jR,jR,jR,jR,jR,jR,jR,jR,jR,jR,jR,jR,jR,jR,jR,jR,jR,jR,jR,jR,jR,jR,jR,jR,jR,jR,jR,jR,jR,jR,jR,jR,jR,jR,jR,jR,jR,jR,jR,jR,jR,jR,jR,jR,jR,jR,jR,jR,jR,jR,jR,jR,jR,jR,jR,jR,jR,jR,jR,jR,jR,jR,jR,jR,jR,jR,jR,jR,jR,jR,jR,jR,jR,jR,jR,jR,jR,jR,jR,jR,jR,jR,jR,jR,jR,jR,jR,jR,jR,jR,jR,jR,jR,jR,jR,jR,jR,jR,jR,jR,jR,jR,jR,jR,jR,jR,jR,jR,jR⟩
def tf1:
 oQ eT 45=none/\
 pX eT 45=some [.int .i64 0,.str eX,.int .i64 0]/\
 vz eT 45=false/\
 pK eT 45=true/\
 si eT 45=true/\
 qB eT 53=some (true,4)/\
 Be eT 53=true/\
 vH eT 53 0=some (0,25)/\
 nB eT 53 0=some (0,1)/\
 vH eT 53 1=some (1,3)/\
 nB eT 53 1=some (1,1)/\
 vH eT 53 2=some (2,3)/\
 nB eT 53 2=some (2,1)/\
 vH eT 53 3=some (3,9)/\
 nB eT 53 3=some (3,1)/\
 oQ eT 53=none/\
 pX eT 53=some [.lS true 0 [],.int .i64 0,.int .i64 0,.str eX]/\
 vz eT 53=false/\
 pK eT 53=true/\
 si eT 53=true/\
 qB eT 66=some (true,2)/\
 Be eT 66=true/\
 vH eT 66 0=some (0,30)/\
 nB eT 66 0=some (0,1)/\
 vH eT 66 1=some (1,3)/\
 nB eT 66 1=some (1,1)/\
 oQ eT 66=none/\
 pX eT 66=some [.int .i64 0,.int .i64 0]/\
 vz eT 66=false/\
 pK eT 66=true/\
 si eT 66=true/\
 qB eT 68=some (false,1)/\
 oQ eT 68=none/\
 pX eT 68=some [.uE (.pointer none)]/\
 vz eT 68=false/\
 pK eT 68=true/\
 si eT 68=true/\
 qB eT 71=some (false,1)/\
 oQ eT 71=none/\
 pX eT 71=some [.uE (.pointer none)]/\
 vz eT 71=false/\
 pK eT 71=true/\
 si eT 71=true/\
 qB eT 76=some (true,8)/\
 Be eT 76=true/\
 vH eT 76 0=some (0,40)/\
 nB eT 76 0=some (0,1)/\
 vH eT 76 1=some (1,3)/\
 nB eT 76 1=some (1,1)/\
 vH eT 76 2=some (2,3)/\
 nB eT 76 2=some (2,1)/\
 vH eT 76 3=some (3,22)/\
 nB eT 76 3=some (3,1)/\
 vH eT 76 4=some (4,25)/\
 nB eT 76 4=some (4,1)/\
 vH eT 76 5=some (5,3)/\
 nB eT 76 5=some (5,1)/\
 vH eT 76 6=some (6,3)/\
 nB eT 76 6=some (6,1)/\
 vH eT 76 7=some (7,3)/\
 nB eT 76 7=some (7,1)/\
 oQ eT 76=none/\
 pX eT 76=some [.lS true 0 [],.int .i64 0,.int .i64 0,.lS true 0 [],.lS true 0 [],.int .i64 0,.int .i64 0,.int .i64 0]/\
 vz eT 76=false/\
 pK eT 76=true/\
 si eT 76=true/\
 qB eT 78=some (false,1)/\
 oQ eT 78=some (82,2,24)/\
 pX eT 78=some [.lS true 0 []]/\
 vz eT 78=false/\
 pK eT 78=true/\
 si eT 78=true/\
 qB eT 80=some (true,2)/\
 Be eT 80=true/\
 vH eT 80 0=some (0,4)/\
 nB eT 80 0=some (0,1)/\
 vH eT 80 1=some (1,78)/\
 nB eT 80 1=some (1,1)/\
 oQ eT 80=none/\
 pX eT 80=some [.bool false,.lS true 0 []]/\
 vz eT 80=false/\
 pK eT 80=true/\
 si eT 80=true/\
 qB eT 82=some (true,2)/\
 Be eT 82=true/\
 vH eT 82 0=some (0,9)/\
 nB eT 82 0=some (0,1)/\
 vH eT 82 1=some (1,3)/\
 nB eT 82 1=some (1,1)/\
 oQ eT 82=none/\
 pX eT 82=some [.str eX,.int .i64 0]/\
 vz eT 82=false/\
 pK eT 82=true/\
 si eT 82=true/\
 qB eT 84=some (false,1)/\
 oQ eT 84=none/\
 pX eT 84=some [.uE .nilFunc]/\
 vz eT 84=false/\
 pK eT 84=true/\
 si eT 84=true/\
 qB eT 100=some (true,3)/\
 Be eT 100=true/\
 vH eT 100 0=some (0,40)/\
 nB eT 100 0=some (0,1)/\
 vH eT 100 1=some (1,3)/\
 nB eT 100 1=some (1,1)/\
 vH eT 100 2=some (2,3)/\
 nB eT 100 2=some (2,1)/\
 oQ eT 100=none/\
 pX eT 100=some [.lS true 0 [],.int .i64 0,.int .i64 0]/\
 vz eT 100=false/\
 pK eT 100=true/\
 si eT 100=true/\
 qB eT 102=some (true,6)/\
 Be eT 102=true/\
 vH eT 102 0=some (0,100)/\
 nB eT 102 0=some (0,3)/\
 vH eT 102 1=some (3,22)/\
 nB eT 102 1=some (3,1)/\
 vH eT 102 2=some (4,25):=
 ⟨jR,jR,jR,jR,jR,jR,jR,jR,jR,jR,jR,jR,jR,jR,jR,jR,jR,jR,jR,jR,jR,jR,jR,jR,jR,jR,jR,jR,jR,jR,jR,jR,jR,jR,jR,jR,jR,jR,jR,jR,jR,jR,jR,jR,jR,jR,jR,jR,jR,jR,jR,jR,jR,jR,jR,jR,jR,jR,jR,jR,jR,jR,jR,jR,jR,jR,jR,jR,jR,jR,jR,jR,jR,jR,jR,jR,jR,jR,jR,jR,jR,jR,jR,jR,jR,jR,jR,jR,jR,jR,jR,jR,jR,jR,jR,jR,jR,jR,jR,jR,jR,jR,jR,jR,jR,jR,jR,jR,jR,jR,jR,jR,jR,jR,jR,jR,jR,jR,jR,jR⟩
def tf2:
 nB eT 102 2=some (4,1)/\
 vH eT 102 3=some (5,3)/\
 nB eT 102 3=some (5,1)/\
 oQ eT 102=none/\
 pX eT 102=some [.lS true 0 [],.int .i64 0,.int .i64 0,.lS true 0 [],.lS true 0 [],.int .i64 0]/\
 vz eT 102=false/\
 pK eT 102=true/\
 si eT 102=true/\
 qB eT 119=some (false,1)/\
 oQ eT 119=some (148,9,136)/\
 pX eT 119=some [.lS true 0 []]/\
 vz eT 119=false/\
 pK eT 119=true/\
 si eT 119=true/\
 qB eT 127=some (false,1)/\
 oQ eT 127=none/\
 pX eT 127=some [.uE (.pointer none)]/\
 vz eT 127=false/\
 pK eT 127=true/\
 si eT 127=true/\
 qB eT 144=some (false,1)/\
 oQ eT 144=none/\
 pX eT 144=some [.uE (.map none)]/\
 abh eT 144=some (.bool false)/\
 vz eT 144=false/\
 pK eT 144=true/\
 si eT 144=true/\
 qB eT 148=some (true,9)/\
 Be eT 148=true/\
 vH eT 148 0=some (0,9)/\
 nB eT 148 0=some (0,1)/\
 vH eT 148 1=some (1,29)/\
 nB eT 148 1=some (1,8)/\
 oQ eT 148=none/\
 pX eT 148=some [.str eX,.int .i64 0,.str eX,.int .i64 0,.lS true 0 [],.lS true 0 [],.lS true 0 [],.int .i64 0,.int .i64 0]/\
 vz eT 148=false/\
 pK eT 148=true/\
 si eT 148=true/\
 qB eT 161=some (false,1)/\
 oQ eT 161=none/\
 pX eT 161=some [.uE (.pointer none)]/\
 vz eT 161=false/\
 pK eT 161=true/\
 si eT 161=true/\
 qB eT 164=some (true,5)/\
 Be eT 164=true/\
 vH eT 164 0=some (0,9)/\
 nB eT 164 0=some (0,1)/\
 vH eT 164 1=some (1,3)/\
 nB eT 164 1=some (1,1)/\
 vH eT 164 2=some (2,144)/\
 nB eT 164 2=some (2,1)/\
 vH eT 164 3=some (3,144)/\
 nB eT 164 3=some (3,1)/\
 vH eT 164 4=some (4,144)/\
 nB eT 164 4=some (4,1)/\
 oQ eT 164=none/\
 pX eT 164=some [.str eX,.int .i64 0,.uE (.map none),.uE (.map none),.uE (.map none)]/\
 vz eT 164=false/\
 pK eT 164=true/\
 si eT 164=true/\
 qB eT 165=some (false,1)/\
 oQ eT 165=some (25,1,24)/\
 pX eT 165=some [.lS true 0 []]/\
 vz eT 165=false/\
 pK eT 165=true/\
 si eT 165=true/\
 qB eT 166=some (false,1)/\
 oQ eT 166=none/\
 pX eT 166=some [.uE .nilFunc]/\
 vz eT 166=false/\
 pK eT 166=true/\
 si eT 166=true/\
 qB eT 167=some (true,4)/\
 ar5 eT 167=some (4,1)/\
 Be eT 167=true/\
 nB eT 167 0=some (0,1)/\
 nB eT 167 1=some (1,1)/\
 nB eT 167 2=some (2,1)/\
 nB eT 167 3=some (3,1)/\
 oQ eT 167=none/\
 pX eT 167=some [.uE .nilFunc,.uE .nilFunc,.uE .nilFunc,.uE .nilFunc]/\
 vz eT 167=false/\
 pK eT 167=true/\
 si eT 167=true/\
 qB eT 195=some (false,1)/\
 oQ eT 195=none/\
 pX eT 195=some [.uE (.pointer none)]/\
 vz eT 195=false/\
 pK eT 195=true/\
 si eT 195=true/\
 qB eT 198=some (false,1)/\
 oQ eT 198=none/\
 pX eT 198=some [.uE (.pointer none)]/\
 vz eT 198=false/\
 pK eT 198=true/\
 si eT 198=true/\
 qB eT 200=some (true,3)/\
 Be eT 200=true/\
 vH eT 200 0=some (0,195)/\
 nB eT 200 0=some (0,1)/\
 vH eT 200 1=some (1,27)/\
 nB eT 200 1=some (1,1)/\
 vH eT 200 2=some (2,3)/\
 nB eT 200 2=some (2,1)/\
 oQ eT 200=none/\
 pX eT 200=some [.uE (.pointer none),.lS true 0 [],.int .i64 0]/\
 vz eT 200=false/\
 pK eT 200=true/\
 si eT 200=true/\
 qB eT 202=some (true,0)/\
 Be eT 202=true/\
 oQ eT 202=none/\
 pX eT 202=some []/\
 vz eT 202=false/\
 pK eT 202=true/\
 si eT 202=true/\
 qB eT 206=some (false,1)/\
 oQ eT 206=none/\
 pX eT 206=some [.uE (.pointer none)]:=
 ⟨jR,jR,jR,jR,jR,jR,jR,jR,jR,jR,jR,jR,jR,jR,jR,jR,jR,jR,jR,jR,jR,jR,jR,jR,jR,jR,jR,jR,jR,jR,jR,jR,jR,jR,jR,jR,jR,jR,jR,jR,jR,jR,jR,jR,jR,jR,jR,jR,jR,jR,jR,jR,jR,jR,jR,jR,jR,jR,jR,jR,jR,jR,jR,jR,jR,jR,jR,jR,jR,jR,jR,jR,jR,jR,jR,jR,jR,jR,jR,jR,jR,jR,jR,jR,jR,jR,jR,jR,jR,jR,jR,jR,jR,jR,jR,jR,jR,jR,jR,jR,jR,jR,jR,jR,jR,jR,jR,jR,jR,jR,jR,jR,jR,jR,jR,jR,jR,jR,jR,jR⟩
def tf3:
 vz eT 206=false/\
 pK eT 206=true/\
 si eT 206=true/\
 qB eT 208=some (true,4)/\
 Be eT 208=true/\
 vH eT 208 0=some (0,22)/\
 nB eT 208 0=some (0,1)/\
 vH eT 208 1=some (1,27)/\
 nB eT 208 1=some (1,1)/\
 vH eT 208 2=some (2,3)/\
 nB eT 208 2=some (2,1)/\
 vH eT 208 3=some (3,4)/\
 nB eT 208 3=some (3,1)/\
 oQ eT 208=none/\
 pX eT 208=some [.lS true 0 [],.lS true 0 [],.int .i64 0,.bool false]/\
 vz eT 208=false/\
 pK eT 208=true/\
 si eT 208=true/\
 qB eT 212=some (true,256)/\
 ar5 eT 212=some (256,1)/\
 Be eT 212=true/\
 oQ eT 212=none/\
 vz eT 212=false/\
 pK eT 212=true/\
 si eT 212=true/\
 qB eT 215=some (false,1)/\
 oQ eT 215=none/\
 pX eT 215=some [.uE .nilFunc]/\
 vz eT 215=false/\
 pK eT 215=true/\
 si eT 215=true/\
 qB eT 220=some (true,256)/\
 ar5 eT 220=some (256,1)/\
 Be eT 220=true/\
 oQ eT 220=none/\
 vz eT 220=false/\
 pK eT 220=true/\
 si eT 220=true/\
 qB eT 229=some (false,1)/\
 oQ eT 229=none/\
 pX eT 229=some [.uE (.map none)]/\
 abh eT 229=some (.agg [.lS true 0 [],.int .i64 0,.int .i64 0,.str eX])/\
 vz eT 229=false/\
 pK eT 229=true/\
 si eT 229=true/\
 qB eT 231=some (true,4)/\
 Be eT 231=true/\
 vH eT 231 0=some (0,229)/\
 nB eT 231 0=some (0,1)/\
 vH eT 231 1=some (1,229)/\
 nB eT 231 1=some (1,1)/\
 vH eT 231 2=some (2,144)/\
 nB eT 231 2=some (2,1)/\
 vH eT 231 3=some (3,3)/\
 nB eT 231 3=some (3,1)/\
 oQ eT 231=none/\
 pX eT 231=some [.uE (.map none),.uE (.map none),.uE (.map none),.int .i64 0]/\
 vz eT 231=false/\
 pK eT 231=true/\
 si eT 231=true/\
 qB eT 279=some (false,1)/\
 oQ eT 279=none/\
 pX eT 279=some [.uE (.pointer none)]/\
 vz eT 279=false/\
 pK eT 279=true/\
 si eT 279=true/\
 tbl eT 4=true/\
 avo eT 20=true:=
 ⟨jR,jR,jR,jR,jR,jR,jR,jR,jR,jR,jR,jR,jR,jR,jR,jR,jR,jR,jR,jR,jR,jR,jR,jR,jR,jR,jR,jR,jR,jR,jR,jR,jR,jR,jR,jR,jR,jR,jR,jR,jR,jR,jR,jR,jR,jR,jR,jR,jR,jR,jR,jR,jR,jR,jR,jR,jR,jR,jR,jR,jR,jR,jR,jR,jR,jR,jR,jR⟩
def mixed:Tryz.prog.follows .mixedOrders=true:=jR
attribute [go_sem] tf0 tf1 tf2 tf3
open Go.Proofs
set_option maxRecDepth 100000
def ko.aJC(a b:ko):aoU eT 82 a.cells b.cells=True:=by
 refine eq_true (awz (jR) (jR) (jR) ?_);rw[ko.kG,ko.kG];exact⟨⟨by decide,jR,jR,by dsimp only;kernel_rfl⟩,⟨by decide,jR,jR,rfl,.i64,jR⟩,trivial⟩
def ko.eqB(a b:ko):Go.Abs.eqB a.cells b.cells=((a.name==b.name)&&(a.plus==b.plus)):=by
 rw[ko.kG,ko.kG];simp only[Go.Abs.eqB,eq1,V8,Bool.and_true]
attribute [go_sem] ko.aJC ko.eqB
def kH.sc(x:kH):x.cells.map sc1=x.cells:=by
 rw[kH.kG];rfl
attribute [go_sem] kH.sc
def jV.aJD:∀x y:jV,((lJ jV.ku)).enc x=((lJ jV.ku)).enc y->x=y:=fun x y h=>by
 have h2:jV.cells x=jV.cells y:=AV.agg.inj h;have h3:jV.of [] x.cells=jV.of [] y.cells:=by rw[h2]
 rw[jV.qV,jV.qV]at h3;exact Option.some.inj h3
def jV.aK9:(∀xs,agf (lJ jV.ku) (.map (mp (Pr (lJ jV.ku)) xs))=some xs)/\agf (lJ jV.ku) (.map [])=some []/\agf (lJ jV.ku) (.map (mp Gr []))=some []:=aBY jV.aJD
def jV.aJE(l:Nat)(s:Str)(v:jV)(xs:List (Str×jV)):Ca l (sb s) (.agg v.cells) (some (.map (mp (Pr (lJ jV.ku)) xs)))=some {val:=.any,rd:=[l],up:=[(l,.map (mp (Pr (lJ jV.ku)) (AF s v xs)))]}:=by
 have:=aER (t:=(lJ jV.ku)) (l:=l) (s:=s) (v:=v) (xs:=xs)
 rwa [show((lJ jV.ku)).enc v=.agg v.cells from rfl]at this
attribute [go_sem] jV.aK9 jV.aJE
abbrev Td:Type:=(jU×Unit)
abbrev T6:Type:=(Td×Unit)
abbrev Tf:Type:=(List (Str×jV))
abbrev Ta:Type:=(List (Str×Bool))
abbrev T7:Type:=((Int×Unit)×(Tf×(Tf×(Ta×Unit))))
abbrev T8:Type:=(jT×Unit)
abbrev T9:Type:=(kq×Unit)
abbrev Tb:Type:=(((List Syntax)×(Int×Unit))×T7)
abbrev Tc:Type:=(PR (T6×(Syntax×Unit)) (T6×T9))
abbrev Te:Type:=(T8×(Syntax×Unit))
abbrev Tg:Type:=(PR ((Td×((Syntax×Unit)×Unit))×Unit) ((Td×((Syntax×Unit)×Unit))×T9))
abbrev Th:Type:=((T8×Unit)×(j7×Unit))
abbrev Ti:Type:=(Unit×((Syntax×Unit)×((Int×Unit)×((Int×Unit)×Tb))))
abbrev Tj:Type:=((Syntax×Unit)×((Int×Unit)×((Int×Unit)×Unit)))
abbrev Tk:Type:=(List j7)
abbrev Tl:Type:=(PR ((Td×(Unit×(Unit×((List ko)×Unit))))×Unit) ((Td×(Unit×(Unit×((List ko)×Unit))))×T9))
abbrev Tm:Type:=((Str×(Int×Unit))×(Ta×(Ta×(Ta×Unit))))
abbrev TJ:Type:=(kj×Unit)
abbrev Tn:Type:=(TJ×(Syntax×(Int×Unit)))
abbrev To:Type:=((List Str)×Unit)
abbrev Tp:Type:=(PR (Tb×(Syntax×(Int×Unit))) (Tb×(Unit×Unit)))
abbrev Tq:Type:=(PR ((Unit×(Unit×((List ko)×T6)))×Unit) ((Unit×(Unit×((List ko)×T6)))×T9))
abbrev Ts:Type:=((List Syntax)×Unit)
abbrev Tt:Type:=(PR (Tb×(Syntax×Unit)) (Tb×(Unit×Unit)))
abbrev Tu:Type:=((Unit×Int)×((Syntax×Unit)×((Syntax×Unit)×Unit)))
abbrev TE:Type:=(List kg)
abbrev Tv:Type:=(PR (T6×(TE×Unit)) (T6×T9))
abbrev Tw:Type:=(PR (T6×Unit) (T6×T9))
abbrev Tx:Type:=((TJ×Unit)×(Syntax×Unit))
abbrev Tz:Type:=(PR ((Td×(Unit×(Unit×(Tk×Unit))))×Unit) ((Td×(Unit×(Unit×(Tk×Unit))))×T9))
abbrev TA:Type:=((T8×Unit)×(Syntax×Unit))
abbrev TB:Type:=(PR (T6×((List ko)×Unit)) (T6×T9))
abbrev TC:Type:=((Unit×Int)×(Unit×(Ta×Unit)))
abbrev TD:Type:=(Int×(Int×Unit))
abbrev TF:Type:=(T8×((List Str)×(Syntax×Unit)))
abbrev TG:Type:=((List kH)×Int×Int)
abbrev TH:Type:=(PR ((Unit×(Unit×(Tk×T6)))×Unit) ((Unit×(Unit×(Tk×T6)))×T9))
abbrev TI:Type:=(T6×(Str×Unit))
abbrev TK:Type:=(Syntax×Int×Int)
abbrev TL:Type:=(PR (T6×(j7×Unit)) (T6×T9))
abbrev TM:Type:=(PR (T6×To) (T6×T9))
abbrev TN:Type:=(PR (T6×Ts) (T6×T9))
abbrev TO:Type:=((T8×Unit)×(Str×Unit))
abbrev TP:Type:=(Str×(Bool×Unit))
abbrev TQ:Type:=(PR (Unit×(kv×Unit)) (Unit×T9))
abbrev TR:Type:=((Unit×T6)×Unit)
abbrev TS:Type:=(PR (Unit×Unit) (T7×Unit))
abbrev TT:Type:=(T8×(Str×Unit))
abbrev TU:Type:=(PR (T7×(Str×To)) (T7×(Str×To)))
abbrev TV:Type:=(T7×(Int×Unit))
abbrev TW:Type:=(PR (Unit×TD) ((T8×Unit)×TD))
abbrev TX:Type:=(PR (T6×(Int×Unit)) (T6×T9))
abbrev TY:Type:=(PR (T6×(Tk×Unit)) (T6×T9))
abbrev TZ:Type:=((Tk×Unit)×Unit)
abbrev T10:Type:=(Unit×((Syntax×Unit)×((Syntax×Unit)×Unit)))
abbrev T11:Type:=(PR (T6×Unit) (Unit×T9))
abbrev T12:Type:=(jV×(Int×((List Syntax)×(Int×Unit))))
abbrev T13:Type:=(T8×(Int×Unit))
abbrev T14:Type:=(T8×(j7×Unit))
abbrev T15:Type:=(T8×(Tk×Unit))
abbrev T16:Type:=(Str×(Int×(Int×((List jV)×Unit))))
end Go.Abs
