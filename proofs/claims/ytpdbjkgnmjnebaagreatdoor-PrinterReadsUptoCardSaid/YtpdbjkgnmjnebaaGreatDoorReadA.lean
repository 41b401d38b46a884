/- A part of the proof: reading of arguments. -/
import Derived.Test.YtpdbjkgnmjnebaaGreatDoorDataA
import Derived.Test.YtpdbjkgnmjnebaaGreatDoorRows
import Derived.ChangeArms
import Derived.WalkKit
import Derived.ProofKit
import Derived.OpenShut
import Derived.JoinedCond
import Derived.WideKeyArgs
import Derived.Carry
import Derived.Test.YtpdbjkgnmjnebaaGreatDoorCoreA
import Derived.Shelf.Vars
import Derived.Stop.LaidErr
import Derived.MakeChecks
import Derived.Lib.LaidTab
import Derived.Lib.ItoaNum
import Derived.Test.YtpdbjkgnmjnebaaGreatDoorCards
import Derived.Test.YtpdbjkgnmjnebaaGreatDoorTie
import Derived.Deep.DeepHandedRow
import Derived.Lay
import Derived.Deep.DeepWitnessRowRef
import Derived.Test.YtpdbjkgnmjnebaaGreatDoorWalkA
import Derived.Test.YtpdbjkgnmjnebaaGreatDoorWalkB
import Derived.Test.YtpdbjkgnmjnebaaGreatDoorWalkC
import Derived.Test.YtpdbjkgnmjnebaaGreatDoorWalkD
import Derived.Test.YtpdbjkgnmjnebaaGreatDoorWalkE
set_option linter.all false
open Go renaming Value→aRS,TypeId→aRT,World→aRU
open List renaming drop_zero→gR,append_assoc→gU,cons_append→gW,nil_append→gX,append_nil→gY,map_cons→gZ,map_nil→hJ,getElem?_eq_getElem→ia,drop_of_length_le→ic,take_append_drop→ig
open Go.Proofs.Tryz renaming prog→gS
open Go.DataW renaming trod_struct→gT,trod→gV,Trod→ii
open Go.laidMet renaming tail→hO
open Go.Value renaming okWide→hU,oneCell'→ib
namespace Go.Abs
variable {fs:Array Field}{handsOn held:Bool}{E:CS}{f:FuncId}{k:IntKind}{ps:List MemPlace}{cs:List aRS}{base i n o off:Nat}{sp:Nat->Bool}{H W:Type}{t:aRT}{en:aRT×aRS->H}{v:aRS}{aQ5:aRU}{bk:W->Nat}
open Go.Proofs.YtpdbjkgnmjnebaaGreatDoor
def aO4(P:Program)(aQ5:aRU)(hk:ay8 aQ5 (fun _ _=>False)):qC:={P,w0:=aQ5,M0:=fun _ _=>False,A:=fun _ _=>False,hA:=fun _ _ h=>h.elim,hk}
def ayA(P:Program)(aQ5:aRU):CS:={w:=aQ5,mu:=fun b o=>GJ (fun _=>undef) [] b o\/False,U:=fun _=>undef,ln:=fun l=>mR ([]:List j5)[l]?,n:=0}
def aK4{P:Program}(b o:Nat): ¬ (ayA P aQ5).mu b o:=by
 simp only[ayA];rintro(⟨l,x,hx,_⟩|h)
 ·simp at hx
 ·exact h
section
variable {P:Program}
def wfI(k:IntKind)(n:Int):Prop:=(Lit.int k n).wf=true
def aK5{n:Int}(h:wfI .i64 n): -9223372036854775808<=n/\n<=9223372036854775807:=by
 simpa [wfI,Lit.wf,IntKind.min,IntKind.max,IntKind.signed,IntKind.bits] using h
def aQd{n:Int}(h:wfI .u8 n):0<=n/\n<=255:=by
 simpa [wfI,Lit.wf,IntKind.min,IntKind.max,IntKind.signed,IntKind.bits] using h
def ac0(P:Program)(aQ5:aRU)(e:W->List AV)(bk:W->Nat)(wf:W->Prop)(cs:List aRS)(d:DataW H):Prop:=
 ∃x,kP (ayA P aQ5) (e x) cs/\(∀u∈cs,u.oneCell'=true)/\bk x<=Rows.uptoBulk d/\wf x
def K4{x:DataW H×List MemPlace}(ht:P.underlying t=some (.int k))(h:gV en P aQ5 0 sp held n t cs=some x):
 ac0 P aQ5 (fun m:Int=>[.int k m]) (fun _=>1) (wfI k) cs x.1:=by
 obtain⟨m,rfl,rfl,hw⟩:=DataW.trod_int ht h;exact⟨m,⟨_,[],rfl,rfl,rfl⟩,by simp [ib],by simp [Rows.uptoBulk],hw⟩
def aK6{x:DataW H×List MemPlace}(ht:P.underlying t=some .bool)(h:gV en P aQ5 0 sp held n t cs=some x):
 ac0 P aQ5 (fun m:Bool=>[.bool m]) (fun _=>1) (fun _=>True) cs x.1:=by
 obtain⟨m,rfl,rfl⟩:=DataW.trod_bool ht h;exact⟨m,⟨_,[],rfl,rfl,rfl⟩,by simp [ib],by simp [Rows.uptoBulk],trivial⟩
def Oz{x:DataW H×List MemPlace}(ht:P.underlying t=some .string)(h:gV en P aQ5 0 sp held n t cs=some x):
 ac0 P aQ5 (fun m:kj=>[.str (sb m)]) (fun m=>m.length+1) (fun _=>True) cs x.1:=by
 obtain⟨s,rfl,rfl,_⟩:=DataW.trod_string ht h;exact⟨s.data.toList,⟨_,[],rfl,by rw[axE];rfl,rfl⟩,by simp [ib],by simp [Rows.uptoBulk],trivial⟩
def qB{W:Type}(bk:W->Nat):List W->Nat
 |[]=>1
 |x::xs=>bk x+qB bk xs
def ajj{W:Type}{bk:W->Nat}:∀xs:List W,1<=qB bk xs
 |[]=>Nat.le_refl _
 |_::xs=>by have:=ajj (bk:=bk) xs;simp only[qB];omega
def awQ{b:Nat}:∀{cs:List AV}{vs:List aRS}{off:Nat},kP (ayA P aQ5) cs vs->(∀u∈vs,u.oneCell'=true)->(∀j u,vs[j]? =some u->aQ5.cell? ⟨b,off+j,none⟩=some u)->oV (ayA P aQ5) b off cs
 |[],_,_,_,_,_=>trivial
 |c::cs,_,off,⟨u,us,rfl,r1,r2⟩,h1,h2=>by
  refine⟨⟨aK4 b off,u,h2 0 u (by simp),h1 u (by simp),r1⟩,awQ r2 (fun v hv=>h1 v (by simp [hv])) (fun j v hj=>?_)⟩;rw[<-h2 (j+1) v (by simpa using hj)];congr 2;omega
def xC {e:aRT}{sz:Nat}{enc:W->List AV}{wf:W->Prop}(ht:P.underlying t=some (.slice e))(hsz:P.cellsOf e=sz)(axp:0<sz)(hl: ∀x,(enc x).length=sz) (ih: ∀m,m<n-> ∀cs x,gV en P aQ5 0 sp held m e cs=some x->ac0 P aQ5 enc bk wf cs x.1) {x:DataW H×List MemPlace} (h:gV en P aQ5 0 sp held n t cs=some x):
 ac0 P aQ5 (fun xs:List W=>[.kF false sz (mp enc xs)]) (qB bk) (fun xs=>∀y∈xs,wf y) cs x.1:=by
 rcases DataW.trod_slice ht h with⟨rfl,rfl⟩|⟨a,len,cap,elems,rest,m,hm,rfl,rfl,hb,hlc,hmx,hlen,hel,hsp,hns⟩
 ·refine⟨[],⟨_,[],rfl,?_,rfl⟩,by simp [ib],by simp [Rows.uptoBulk,qB],by simp⟩;rw[p8];exact⟨none,0,rfl,Nat.le_refl _,(by intro h;cases h),fun _=>rfl,(by intro a h;cases h),(by intro a h;cases h)⟩
 ·subst hsz
  have key:∀(k i:Nat),i+k=len->∃xs:List W,xs.length=k/\ol (ayA P aQ5) (P.cellsOf e) a.block (a.off+i*P.cellsOf e) (mp enc xs)/\qB bk xs<=Rows.uptoBulkAll ((elems.drop i).map (·.1))+1/\(∀y∈xs,wf y)/\(0<k->i=0->a.spot=none):=by
   intro k;induction k with
   |zero=>
    intro i hi;refine⟨[],rfl,by rw[p8];trivial,?_,by simp,by omega⟩;simp [qB]
   |succ k ihk=>
    intro i hi;obtain⟨xs,hxl,OK,aLE,hwf,_⟩:=ihk (i+1) (by omega);have hi':i<elems.length:=by omega
    have he:=hel i (by omega);rw[ia hi']at he;obtain⟨vs,hvs,htr⟩:=Option.bind_eq_some_iff.1 he;obtain⟨y,hy,h1,hbk,hw⟩:=ih m (by omega) vs _ htr;obtain⟨_,hvl,ud⟩:=World.cells?_some hvs
    have aqa:(a.add (i*P.cellsOf e)).spot=none:=by
     have h0:=ud 0 axp;have hv0:vs[0]? =some vs[0]:=ia (by omega);rw[hv0]at h0;unfold World.cell? at h0;have:(a.add (i*P.cellsOf e)).add 0=a.add (i*P.cellsOf e):=by unfold Addr.add;simp
     rw[this]at h0;split at h0
     ·split at h0
      ·cases h0
      ·rename_i hs;simpa using hs
     ·cases h0
    have aQe:a.add (i*P.cellsOf e)=⟨a.block,a.off+i*P.cellsOf e,none⟩:=by
     unfold Addr.add at aqa ⊢;split
     ·rename_i h0;rw[if_pos h0]at aqa;cases a;simp_all
     ·rfl
    refine⟨y::xs,by simp [hxl],?_,?_,?_,?_⟩
    ·rw[p8]at OK ⊢;refine⟨hl y,awQ hy h1 (fun j u hj=>?_),?_⟩
     ·have hj':j<P.cellsOf e:=by rw[<-hvl];exact(List.getElem?_eq_some_iff.1 hj).1
      have:=ud j hj';rw[hj,aQe,Ae]at this;exact this
     ·have e2:a.off+i*P.cellsOf e+P.cellsOf e=a.off+(i+1)*P.cellsOf e:=by rw[Nat.add_mul];omega
      rw[e2];exact OK
    ·have e3:elems.drop i=elems[i]::elems.drop (i+1):=List.drop_eq_getElem_cons hi';rw[e3];simp only[gZ,Rows.uptoBulkAll,qB];omega
    ·intro z hz;simp only[List.mem_cons]at hz;rcases hz with rfl|hz
     ·exact hw
     ·exact hwf z hz
    ·intro _ h0;subst h0;rw[Nat.zero_mul]at aqa;simpa [Addr.add] using aqa
  obtain⟨xs,hxl,OK,aLE,hwf,aqa⟩:=key len 0 (by omega);refine⟨xs,⟨_,[],rfl,?_,rfl⟩,by simp [ib],?_,hwf⟩
  ·refine⟨some a,cap,by rw[PU,hxl],by rw[PU,hxl];exact hlc,(by intro h;cases h),(by intro h;cases h),?_,?_⟩
   ·intro a' ha sv;cases ha
    have:0<len:=by
     rw[<-hxl,<-PU enc xs];exact List.length_pos_iff.2 sv
    exact aqa this rfl
   ·intro a' ha;cases ha;simpa using OK
  ·simp only[gR]at aLE;simp only[Rows.uptoBulk];omega
def fld {ty:Nat}(h:(fs[i]?).map (fun f=>(f.type,f.offset))=some (ty,off)):∃f,fs[i]? =some f/\f.type=ty/\f.offset=off:=by
 cases hf:fs[i]? with
 |none=>rw[hf]at h;cases h
 |some f=>rw[hf]at h;cases h;exact⟨f,rfl,rfl,rfl⟩
def mU {ty:Nat}{m sz:Nat}{xs:List (DataW H×List MemPlace)}(h:(fs[i]?).map (fun f=>(f.type,f.offset))=some (ty,off))(hsz:P.cellsOf ty=sz)
 (hf:∀(i:Nat)(f:Field),fs[i]? =some f->gV en P aQ5 0 sp held m f.type ((cs.drop f.offset).take (P.cellsOf f.type))=xs[i]?) (hi:i<xs.length):gV en P aQ5 0 sp held m ty ((cs.drop off).take sz)=some xs[i]:=by
 obtain⟨f,h1,rfl,rfl⟩:=fld h;rw[<-hsz,hf i f h1,ia hi]
def l4{a b:List AV}{s:Nat}(h1:kP E a ((cs.drop o).take s))(h2:kP E b (cs.drop (o+s))):kP E (a++b) (cs.drop o):=by
 have:=kP.append h1 h2;rw[<-List.drop_drop,ig]at this;exact this
def l5 {s:Nat}(h1:∀u∈(cs.drop o).take s,u.oneCell'=true)(h2:∀u∈cs.drop (o+s),u.oneCell'=true):∀u∈cs.drop o,u.oneCell'=true:=by
 intro u hu;rw[<-ig s (cs.drop o),List.mem_append,List.drop_drop]at hu;rcases hu with hu|hu
 ·exact h1 u hu
 ·exact h2 u hu
def ID(h:cs.length=o):kP E [] (cs.drop o):=by
 rw[ic (by omega)];rfl
def IE(h:cs.length=o):∀u∈cs.drop o,u.oneCell'=true:=by
 rw[ic (by omega)];simp
end
open Go.Proofs
open Go.Proofs.YtpdbjkgnmjnebaaGreatDoor
set_option maxRecDepth 100000
def jR.kQ(x:jR):Nat:=qB (fun m:kj=>m.length+1) x.parts+(1+(1+((x.target.length+1)+1)))
def jR.wf(x:jR):Prop:=(∀y∈x.parts,True)/\wfI .i64 x.aqg/\wfI .i64 x.aqh/\True/\True
def jR.read:∀(n:Nat)(cs:List aRS)(x:DataW H×List MemPlace),gV en gS aQ5 0 sp held n 25 cs=some x->ac0 gS aQ5 jR.cells jR.kQ jR.wf cs x.1
 |n,cs,x,h=>by
  obtain⟨xs,m,hm,rfl,hl,hlen,hf⟩:=gT (fs:=Tryz.prog.fieldsOf 25) (by kernel_rfl) h;have hsz:Tryz.prog.cellsOf 25=4:=by kernel_rfl
  have hfs:(Tryz.prog.fieldsOf 25).size=4:=by kernel_rfl
  rw[hsz]at hl;rw[hfs]at hlen;have h0:=mU (i:=0) (ty:=23) (off:=0) (sz:=1) (by kernel_rfl) (by kernel_rfl) hf (by omega);have h1:=mU (i:=1) (ty:=3) (off:=1) (sz:=1) (by kernel_rfl) (by kernel_rfl) hf (by omega);have h2:=mU (i:=2) (ty:=3) (off:=2) (sz:=1) (by kernel_rfl) (by kernel_rfl) hf (by omega);have h3:=mU (i:=3) (ty:=9) (off:=3) (sz:=1) (by kernel_rfl) (by kernel_rfl) hf (by omega)
  match xs,hlen,h0,h1,h2,h3 with
  |[y0,y1,y2,y3],_,h0,h1,h2,h3=>
   obtain⟨x0,r0,o0,b0,w0⟩:=xC (t:=23) (e:=9) (sz:=1) (enc:=kX) (bk:=(fun m:kj=>m.length+1)) (wf:=(fun _=>True)) (by kernel_rfl) (by kernel_rfl) (by decide) (fun _=>rfl) (fun k hk cs x h=>Oz (t:=9) (by kernel_rfl) h) h0;obtain⟨x1,r1,o1,b1,w1⟩:=K4 (t:=3) (k:=.i64) (by kernel_rfl) h1;obtain⟨x2,r2,o2,b2,w2⟩:=K4 (t:=3) (k:=.i64) (by kernel_rfl) h2;obtain⟨x3,r3,o3,b3,w3⟩:=Oz (t:=9) (by kernel_rfl) h3;have b0:qB (fun m:kj=>m.length+1) x0<=Rows.uptoBulk y0.1:=b0;have b1:1<=Rows.uptoBulk y1.1:=b1;have b2:1<=Rows.uptoBulk y2.1:=b2;have b3:(x3.length+1)<=Rows.uptoBulk y3.1:=b3;refine⟨⟨x0,x1,x2,x3⟩,?_,?_,?_,?_⟩
   ·have hr:=(l4 r0 (l4 r1 (l4 r2 (l4 r3 (ID hl)))));rw[gR]at hr;rw[jR.kN];simpa only[gU,gW,gX,gY] using hr
   ·have ho:=(l5 o0 (l5 o1 (l5 o2 (l5 o3 (IE hl)))));rw[gR]at ho;exact ho
   ·simp only[gZ,hJ,Rows.uptoBulk,Rows.uptoBulkAll,jR.kQ];omega
   ·exact⟨w0,w1,w2,w3,trivial⟩
def kp.kQ(x:kp):Nat:=1+(1+1)
def kp.wf(x:kp):Prop:=wfI .i64 x.index/\wfI .i64 x.plus/\True
def kp.read:∀(n:Nat)(cs:List aRS)(x:DataW H×List MemPlace),gV en gS aQ5 0 sp held n 116 cs=some x->ac0 gS aQ5 kp.cells kp.kQ kp.wf cs x.1
 |n,cs,x,h=>by
  obtain⟨xs,m,hm,rfl,hl,hlen,hf⟩:=gT (fs:=Tryz.prog.fieldsOf 116) (by kernel_rfl) h;have hsz:Tryz.prog.cellsOf 116=2:=by kernel_rfl
  have hfs:(Tryz.prog.fieldsOf 116).size=2:=by kernel_rfl
  rw[hsz]at hl;rw[hfs]at hlen;have h0:=mU (i:=0) (ty:=3) (off:=0) (sz:=1) (by kernel_rfl) (by kernel_rfl) hf (by omega);have h1:=mU (i:=1) (ty:=3) (off:=1) (sz:=1) (by kernel_rfl) (by kernel_rfl) hf (by omega)
  match xs,hlen,h0,h1 with
  |[y0,y1],_,h0,h1=>
   obtain⟨x0,r0,o0,b0,w0⟩:=K4 (t:=3) (k:=.i64) (by kernel_rfl) h0;obtain⟨x1,r1,o1,b1,w1⟩:=K4 (t:=3) (k:=.i64) (by kernel_rfl) h1;have b0:1<=Rows.uptoBulk y0.1:=b0;have b1:1<=Rows.uptoBulk y1.1:=b1;refine⟨⟨x0,x1⟩,?_,?_,?_,?_⟩
   ·have hr:=(l4 r0 (l4 r1 (ID hl)));rw[gR]at hr;rw[kp.kN];simpa only[gU,gW,gX,gY] using hr
   ·have ho:=(l5 o0 (l5 o1 (IE hl)));rw[gR]at ho;exact ho
   ·simp only[gZ,hJ,Rows.uptoBulk,Rows.uptoBulkAll,kp.kQ];omega
   ·exact⟨w0,w1,trivial⟩
def kA.kQ(x:kA):Nat:=1+(qB kp.kQ x.vars+1)
def kA.wf(x:kA):Prop:=wfI .i64 x.const/\(∀y∈x.vars,y.wf)/\True
def kA.read:∀(n:Nat)(cs:List aRS)(x:DataW H×List MemPlace),gV en gS aQ5 0 sp held n 98 cs=some x->ac0 gS aQ5 kA.cells kA.kQ kA.wf cs x.1
 |n,cs,x,h=>by
  obtain⟨xs,m,hm,rfl,hl,hlen,hf⟩:=gT (fs:=Tryz.prog.fieldsOf 98) (by kernel_rfl) h;have hsz:Tryz.prog.cellsOf 98=2:=by kernel_rfl
  have hfs:(Tryz.prog.fieldsOf 98).size=2:=by kernel_rfl
  rw[hsz]at hl;rw[hfs]at hlen;have h0:=mU (i:=0) (ty:=3) (off:=0) (sz:=1) (by kernel_rfl) (by kernel_rfl) hf (by omega);have h1:=mU (i:=1) (ty:=96) (off:=1) (sz:=1) (by kernel_rfl) (by kernel_rfl) hf (by omega)
  match xs,hlen,h0,h1 with
  |[y0,y1],_,h0,h1=>
   obtain⟨x0,r0,o0,b0,w0⟩:=K4 (t:=3) (k:=.i64) (by kernel_rfl) h0;obtain⟨x1,r1,o1,b1,w1⟩:=xC (t:=96) (e:=116) (sz:=2) (enc:=kp.cells) (bk:=kp.kQ) (wf:=kp.wf) (by kernel_rfl) (by kernel_rfl) (by decide) kp.length (fun k hk cs x h=>kp.read k cs x h) h1;have b0:1<=Rows.uptoBulk y0.1:=b0;have b1:qB kp.kQ x1<=Rows.uptoBulk y1.1:=b1;refine⟨⟨x0,x1⟩,?_,?_,?_,?_⟩
   ·have hr:=(l4 r0 (l4 r1 (ID hl)));rw[gR]at hr;rw[kA.kN];simpa only[gU,gW,gX,gY] using hr
   ·have ho:=(l5 o0 (l5 o1 (IE hl)));rw[gR]at ho;exact ho
   ·simp only[gZ,hJ,Rows.uptoBulk,Rows.uptoBulkAll,kA.kQ];omega
   ·exact⟨w0,w1,trivial⟩
mutual
def jW.kQ:jW->Nat
 |.mk kind index name kg kI=>1+(1+((name.length+1)+(qB kA.kQ kg+(jW.ajk kI+1))))
def jW.ajk:List jW->Nat
 |[]=>1
 |x::xs=>x.kQ+jW.ajk xs
end
mutual
def jW.wf:jW->Prop
 |.mk kind index name kg kI=>wfI .i64 kind/\wfI .i64 index/\True/\(∀y∈kg,y.wf)/\jW.wfL kI/\True
def jW.wfL:List jW->Prop
 |[]=>True
 |x::xs=>x.wf/\jW.wfL xs
end
def jW.ajl:∀xs,jW.ajk xs=qB jW.kQ xs
 |[]=>by simp only[jW.ajk,qB]
 |x::xs=>by simp only[jW.ajk,qB,jW.ajl xs]
def jW.aue:∀xs,jW.wfL xs↔ ∀y∈xs,jW.wf y
 |[]=>by simp [jW.wfL]
 |x::xs=>by simp [jW.wfL,jW.aue xs]
theorem jW.yc(x:jW):x.kQ=1+(1+((x.name.length+1)+(qB kA.kQ x.kg+(qB jW.kQ x.kI+1)))):=by
 cases x;simp only[jW.kQ,jW.ajl];rfl
theorem jW.awR(x:jW):x.wf↔(wfI .i64 x.kind/\wfI .i64 x.index/\True/\(∀y∈x.kg,y.wf)/\(∀y∈x.kI,y.wf)/\True):=by
 cases x;simp only[jW.wf,jW.aue];exact Iff.rfl
mutual
def jW.read{H:Type}{en:aRT×aRS->H}{aQ5:aRU}{sp:Nat->Bool}{held:Bool}:∀(n:Nat)(cs:List aRS)(x:DataW H×List MemPlace),gV en gS aQ5 0 sp held n 49 cs=some x->ac0 gS aQ5 jW.cells jW.kQ jW.wf cs x.1
 |n,cs,x,h=>by
  obtain⟨xs,m,hm,rfl,hl,hlen,hf⟩:=gT (fs:=Tryz.prog.fieldsOf 49) (by kernel_rfl) h;have hsz:Tryz.prog.cellsOf 49=5:=by kernel_rfl
  have hfs:(Tryz.prog.fieldsOf 49).size=5:=by kernel_rfl
  rw[hsz]at hl;rw[hfs]at hlen;have h0:=mU (i:=0) (ty:=3) (off:=0) (sz:=1) (by kernel_rfl) (by kernel_rfl) hf (by omega);have h1:=mU (i:=1) (ty:=3) (off:=1) (sz:=1) (by kernel_rfl) (by kernel_rfl) hf (by omega);have h2:=mU (i:=2) (ty:=9) (off:=2) (sz:=1) (by kernel_rfl) (by kernel_rfl) hf (by omega);have h3:=mU (i:=3) (ty:=46) (off:=3) (sz:=1) (by kernel_rfl) (by kernel_rfl) hf (by omega);have h4:=mU (i:=4) (ty:=47) (off:=4) (sz:=1) (by kernel_rfl) (by kernel_rfl) hf (by omega)
  match xs,hlen,h0,h1,h2,h3,h4 with
  |[y0,y1,y2,y3,y4],_,h0,h1,h2,h3,h4=>
   obtain⟨x0,r0,o0,b0,w0⟩:=K4 (t:=3) (k:=.i64) (by kernel_rfl) h0;obtain⟨x1,r1,o1,b1,w1⟩:=K4 (t:=3) (k:=.i64) (by kernel_rfl) h1;obtain⟨x2,r2,o2,b2,w2⟩:=Oz (t:=9) (by kernel_rfl) h2;obtain⟨x3,r3,o3,b3,w3⟩:=xC (t:=46) (e:=98) (sz:=2) (enc:=kA.cells) (bk:=kA.kQ) (wf:=kA.wf) (by kernel_rfl) (by kernel_rfl) (by decide) kA.length (fun k hk cs x h=>kA.read k cs x h) h3;obtain⟨x4,r4,o4,b4,w4⟩:=xC (t:=47) (e:=49) (sz:=5) (enc:=jW.cells) (bk:=jW.kQ) (wf:=jW.wf) (by kernel_rfl) (by kernel_rfl) (by decide) jW.length (fun k hk cs x h=>jW.read k cs x h) h4;have b0:1<=Rows.uptoBulk y0.1:=b0;have b1:1<=Rows.uptoBulk y1.1:=b1;have b2:(x2.length+1)<=Rows.uptoBulk y2.1:=b2;have b3:qB kA.kQ x3<=Rows.uptoBulk y3.1:=b3;have b4:qB jW.kQ x4<=Rows.uptoBulk y4.1:=b4;refine⟨.mk x0 x1 x2 x3 x4,?_,?_,?_,?_⟩
   ·have hr:=(l4 r0 (l4 r1 (l4 r2 (l4 r3 (l4 r4 (ID hl))))));rw[gR]at hr;rw[jW.kN];simpa only[gU,gW,gX,gY,jW.kind,jW.index,jW.name,jW.kg,jW.kI] using hr
   ·have ho:=(l5 o0 (l5 o1 (l5 o2 (l5 o3 (l5 o4 (IE hl))))));rw[gR]at ho;exact ho
   ·rw[jW.yc];simp only[gZ,hJ,Rows.uptoBulk,Rows.uptoBulkAll];simp only[jW.kind,jW.index,jW.name,jW.kg,jW.kI];omega
   ·rw[jW.awR];exact⟨w0,w1,w2,w3,w4,trivial⟩
 termination_by n=>n
 decreasing_by all_goals omega
end
def kV.kQ(x:kV):Nat:=1+(x.type.kQ+(qB jW.kQ x.yA+1))
def kV.wf(x:kV):Prop:=wfI .i64 x.params/\x.type.wf/\(∀y∈x.yA,y.wf)/\True
def kV.read:∀(n:Nat)(cs:List aRS)(x:DataW H×List MemPlace),gV en gS aQ5 0 sp held n 128 cs=some x->ac0 gS aQ5 kV.cells kV.kQ kV.wf cs x.1
 |n,cs,x,h=>by
  obtain⟨xs,m,hm,rfl,hl,hlen,hf⟩:=gT (fs:=Tryz.prog.fieldsOf 128) (by kernel_rfl) h;have hsz:Tryz.prog.cellsOf 128=7:=by kernel_rfl
  have hfs:(Tryz.prog.fieldsOf 128).size=3:=by kernel_rfl
  rw[hsz]at hl;rw[hfs]at hlen;have h0:=mU (i:=0) (ty:=3) (off:=0) (sz:=1) (by kernel_rfl) (by kernel_rfl) hf (by omega);have h1:=mU (i:=1) (ty:=49) (off:=1) (sz:=5) (by kernel_rfl) (by kernel_rfl) hf (by omega);have h2:=mU (i:=2) (ty:=47) (off:=6) (sz:=1) (by kernel_rfl) (by kernel_rfl) hf (by omega)
  match xs,hlen,h0,h1,h2 with
  |[y0,y1,y2],_,h0,h1,h2=>
   obtain⟨x0,r0,o0,b0,w0⟩:=K4 (t:=3) (k:=.i64) (by kernel_rfl) h0;obtain⟨x1,r1,o1,b1,w1⟩:=jW.read m _ _ h1;obtain⟨x2,r2,o2,b2,w2⟩:=xC (t:=47) (e:=49) (sz:=5) (enc:=jW.cells) (bk:=jW.kQ) (wf:=jW.wf) (by kernel_rfl) (by kernel_rfl) (by decide) jW.length (fun k hk cs x h=>jW.read k cs x h) h2;have b0:1<=Rows.uptoBulk y0.1:=b0;have b1:x1.kQ<=Rows.uptoBulk y1.1:=b1;have b2:qB jW.kQ x2<=Rows.uptoBulk y2.1:=b2;refine⟨⟨x0,x1,x2⟩,?_,?_,?_,?_⟩
   ·have hr:=(l4 r0 (l4 r1 (l4 r2 (ID hl))));rw[gR]at hr;rw[kV.kN];simpa only[gU,gW,gX,gY] using hr
   ·have ho:=(l5 o0 (l5 o1 (l5 o2 (IE hl))));rw[gR]at ho;exact ho
   ·simp only[gZ,hJ,Rows.uptoBulk,Rows.uptoBulkAll,kV.kQ];omega
   ·exact⟨w0,w1,w2,trivial⟩
def mI.kQ(x:mI):Nat:=(x.name.length+1)+(x.type.kQ+1)
def mI.wf(x:mI):Prop:=True/\x.type.wf/\True
def mI.read:∀(n:Nat)(cs:List aRS)(x:DataW H×List MemPlace),gV en gS aQ5 0 sp held n 199 cs=some x->ac0 gS aQ5 mI.cells mI.kQ mI.wf cs x.1
 |n,cs,x,h=>by
  obtain⟨xs,m,hm,rfl,hl,hlen,hf⟩:=gT (fs:=Tryz.prog.fieldsOf 199) (by kernel_rfl) h;have hsz:Tryz.prog.cellsOf 199=6:=by kernel_rfl
  have hfs:(Tryz.prog.fieldsOf 199).size=2:=by kernel_rfl
  rw[hsz]at hl;rw[hfs]at hlen;have h0:=mU (i:=0) (ty:=9) (off:=0) (sz:=1) (by kernel_rfl) (by kernel_rfl) hf (by omega);have h1:=mU (i:=1) (ty:=49) (off:=1) (sz:=5) (by kernel_rfl) (by kernel_rfl) hf (by omega)
  match xs,hlen,h0,h1 with
  |[y0,y1],_,h0,h1=>
   obtain⟨x0,r0,o0,b0,w0⟩:=Oz (t:=9) (by kernel_rfl) h0;obtain⟨x1,r1,o1,b1,w1⟩:=jW.read m _ _ h1;have b0:(x0.length+1)<=Rows.uptoBulk y0.1:=b0;have b1:x1.kQ<=Rows.uptoBulk y1.1:=b1;refine⟨⟨x0,x1⟩,?_,?_,?_,?_⟩
   ·have hr:=(l4 r0 (l4 r1 (ID hl)));rw[gR]at hr;rw[mI.kN];simpa only[gU,gW,gX,gY] using hr
   ·have ho:=(l5 o0 (l5 o1 (IE hl)));rw[gR]at ho;exact ho
   ·simp only[gZ,hJ,Rows.uptoBulk,Rows.uptoBulkAll,mI.kQ];omega
   ·exact⟨w0,w1,trivial⟩
mutual
def ld.kQ:ld->Nat
 |.mk kind body var oe=>1+(body.kQ+(1+(kw.ajk oe+1)))
def kw.kQ:kw->Nat
 |.mk XE za tA=>(XE.length+1)+(1+(tA.kQ+1))
def kw.ajk:List kw->Nat
 |[]=>1
 |x::xs=>x.kQ+kw.ajk xs
end
mutual
def ld.wf:ld->Prop
 |.mk kind body var oe=>wfI .i64 kind/\body.wf/\wfI .i64 var/\kw.wfL oe/\True
def kw.wf:kw->Prop
 |.mk XE za tA=>True/\True/\tA.wf/\True
def kw.wfL:List kw->Prop
 |[]=>True
 |x::xs=>x.wf/\kw.wfL xs
end
def kw.ajl:∀xs,kw.ajk xs=qB kw.kQ xs
 |[]=>by simp only[kw.ajk,qB]
 |x::xs=>by simp only[kw.ajk,qB,kw.ajl xs]
def kw.aue:∀xs,kw.wfL xs↔ ∀y∈xs,kw.wf y
 |[]=>by simp [kw.wfL]
 |x::xs=>by simp [kw.wfL,kw.aue xs]
theorem ld.yc(x:ld):x.kQ=1+(x.body.kQ+(1+(qB kw.kQ x.oe+1))):=by
 cases x;simp only[ld.kQ,kw.ajl];rfl
theorem ld.awR(x:ld):x.wf↔(wfI .i64 x.kind/\x.body.wf/\wfI .i64 x.var/\(∀y∈x.oe,y.wf)/\True):=by
 cases x;simp only[ld.wf,kw.aue];exact Iff.rfl
theorem kw.yc(x:kw):x.kQ=(x.XE.length+1)+(1+(x.tA.kQ+1)):=by
 cases x;simp only[kw.kQ];rfl
theorem kw.awR(x:kw):x.wf↔(True/\True/\x.tA.wf/\True):=by
 cases x;simp only[kw.wf];exact Iff.rfl
mutual
def ld.read{H:Type}{en:aRT×aRS->H}{aQ5:aRU}{sp:Nat->Bool}{held:Bool}:∀(n:Nat)(cs:List aRS)(x:DataW H×List MemPlace),gV en gS aQ5 0 sp held n 202 cs=some x->ac0 gS aQ5 ld.cells ld.kQ ld.wf cs x.1
 |n,cs,x,h=>by
  obtain⟨xs,m,hm,rfl,hl,hlen,hf⟩:=gT (fs:=Tryz.prog.fieldsOf 202) (by kernel_rfl) h;have hsz:Tryz.prog.cellsOf 202=8:=by kernel_rfl
  have hfs:(Tryz.prog.fieldsOf 202).size=4:=by kernel_rfl
  rw[hsz]at hl;rw[hfs]at hlen;have h0:=mU (i:=0) (ty:=3) (off:=0) (sz:=1) (by kernel_rfl) (by kernel_rfl) hf (by omega);have h1:=mU (i:=1) (ty:=49) (off:=1) (sz:=5) (by kernel_rfl) (by kernel_rfl) hf (by omega);have h2:=mU (i:=2) (ty:=3) (off:=6) (sz:=1) (by kernel_rfl) (by kernel_rfl) hf (by omega);have h3:=mU (i:=3) (ty:=200) (off:=7) (sz:=1) (by kernel_rfl) (by kernel_rfl) hf (by omega)
  match xs,hlen,h0,h1,h2,h3 with
  |[y0,y1,y2,y3],_,h0,h1,h2,h3=>
   obtain⟨x0,r0,o0,b0,w0⟩:=K4 (t:=3) (k:=.i64) (by kernel_rfl) h0;obtain⟨x1,r1,o1,b1,w1⟩:=jW.read m _ _ h1;obtain⟨x2,r2,o2,b2,w2⟩:=K4 (t:=3) (k:=.i64) (by kernel_rfl) h2;obtain⟨x3,r3,o3,b3,w3⟩:=xC (t:=200) (e:=345) (sz:=10) (enc:=kw.cells) (bk:=kw.kQ) (wf:=kw.wf) (by kernel_rfl) (by kernel_rfl) (by decide) kw.length (fun k hk cs x h=>kw.read k cs x h) h3;have b0:1<=Rows.uptoBulk y0.1:=b0;have b1:x1.kQ<=Rows.uptoBulk y1.1:=b1;have b2:1<=Rows.uptoBulk y2.1:=b2;have b3:qB kw.kQ x3<=Rows.uptoBulk y3.1:=b3;refine⟨.mk x0 x1 x2 x3,?_,?_,?_,?_⟩
   ·have hr:=(l4 r0 (l4 r1 (l4 r2 (l4 r3 (ID hl)))));rw[gR]at hr;rw[ld.kN];simpa only[gU,gW,gX,gY,ld.kind,ld.body,ld.var,ld.oe] using hr
   ·have ho:=(l5 o0 (l5 o1 (l5 o2 (l5 o3 (IE hl)))));rw[gR]at ho;exact ho
   ·rw[ld.yc];simp only[gZ,hJ,Rows.uptoBulk,Rows.uptoBulkAll];simp only[ld.kind,ld.body,ld.var,ld.oe];omega
   ·rw[ld.awR];exact⟨w0,w1,w2,w3,trivial⟩
 termination_by n=>n
 decreasing_by all_goals omega
def kw.read{H:Type}{en:aRT×aRS->H}{aQ5:aRU}{sp:Nat->Bool}{held:Bool}:∀(n:Nat)(cs:List aRS)(x:DataW H×List MemPlace),gV en gS aQ5 0 sp held n 345 cs=some x->ac0 gS aQ5 kw.cells kw.kQ kw.wf cs x.1
 |n,cs,x,h=>by
  obtain⟨xs,m,hm,rfl,hl,hlen,hf⟩:=gT (fs:=Tryz.prog.fieldsOf 345) (by kernel_rfl) h;have hsz:Tryz.prog.cellsOf 345=10:=by kernel_rfl
  have hfs:(Tryz.prog.fieldsOf 345).size=3:=by kernel_rfl
  rw[hsz]at hl;rw[hfs]at hlen;have h0:=mU (i:=0) (ty:=9) (off:=0) (sz:=1) (by kernel_rfl) (by kernel_rfl) hf (by omega);have h1:=mU (i:=1) (ty:=4) (off:=1) (sz:=1) (by kernel_rfl) (by kernel_rfl) hf (by omega);have h2:=mU (i:=2) (ty:=202) (off:=2) (sz:=8) (by kernel_rfl) (by kernel_rfl) hf (by omega)
  match xs,hlen,h0,h1,h2 with
  |[y0,y1,y2],_,h0,h1,h2=>
   obtain⟨x0,r0,o0,b0,w0⟩:=Oz (t:=9) (by kernel_rfl) h0;obtain⟨x1,r1,o1,b1,w1⟩:=aK6 (t:=4) (by kernel_rfl) h1;obtain⟨x2,r2,o2,b2,w2⟩:=ld.read m _ _ h2;have b0:(x0.length+1)<=Rows.uptoBulk y0.1:=b0;have b1:1<=Rows.uptoBulk y1.1:=b1;have b2:x2.kQ<=Rows.uptoBulk y2.1:=b2;refine⟨.mk x0 x1 x2,?_,?_,?_,?_⟩
   ·have hr:=(l4 r0 (l4 r1 (l4 r2 (ID hl))));rw[gR]at hr;rw[kw.kN];simpa only[gU,gW,gX,gY,kw.XE,kw.za,kw.tA] using hr
   ·have ho:=(l5 o0 (l5 o1 (l5 o2 (IE hl))));rw[gR]at ho;exact ho
   ·rw[kw.yc];simp only[gZ,hJ,Rows.uptoBulk,Rows.uptoBulkAll];simp only[kw.XE,kw.za,kw.tA];omega
   ·rw[kw.awR];exact⟨w0,w1,w2,trivial⟩
 termination_by n=>n
 decreasing_by all_goals omega
end
def qH.kQ(x:qH):Nat:=(x.name.length+1)+(x.type.kQ+(1+(x.tA.kQ+1)))
def qH.wf(x:qH):Prop:=True/\x.type.wf/\wfI .i64 x.ata/\x.tA.wf/\True
def qH.read:∀(n:Nat)(cs:List aRS)(x:DataW H×List MemPlace),gV en gS aQ5 0 sp held n 204 cs=some x->ac0 gS aQ5 qH.cells qH.kQ qH.wf cs x.1
 |n,cs,x,h=>by
  obtain⟨xs,m,hm,rfl,hl,hlen,hf⟩:=gT (fs:=Tryz.prog.fieldsOf 204) (by kernel_rfl) h;have hsz:Tryz.prog.cellsOf 204=15:=by kernel_rfl
  have hfs:(Tryz.prog.fieldsOf 204).size=4:=by kernel_rfl
  rw[hsz]at hl;rw[hfs]at hlen;have h0:=mU (i:=0) (ty:=9) (off:=0) (sz:=1) (by kernel_rfl) (by kernel_rfl) hf (by omega);have h1:=mU (i:=1) (ty:=49) (off:=1) (sz:=5) (by kernel_rfl) (by kernel_rfl) hf (by omega);have h2:=mU (i:=2) (ty:=3) (off:=6) (sz:=1) (by kernel_rfl) (by kernel_rfl) hf (by omega);have h3:=mU (i:=3) (ty:=202) (off:=7) (sz:=8) (by kernel_rfl) (by kernel_rfl) hf (by omega)
  match xs,hlen,h0,h1,h2,h3 with
  |[y0,y1,y2,y3],_,h0,h1,h2,h3=>
   obtain⟨x0,r0,o0,b0,w0⟩:=Oz (t:=9) (by kernel_rfl) h0;obtain⟨x1,r1,o1,b1,w1⟩:=jW.read m _ _ h1;obtain⟨x2,r2,o2,b2,w2⟩:=K4 (t:=3) (k:=.i64) (by kernel_rfl) h2;obtain⟨x3,r3,o3,b3,w3⟩:=ld.read m _ _ h3;have b0:(x0.length+1)<=Rows.uptoBulk y0.1:=b0;have b1:x1.kQ<=Rows.uptoBulk y1.1:=b1;have b2:1<=Rows.uptoBulk y2.1:=b2;have b3:x3.kQ<=Rows.uptoBulk y3.1:=b3;refine⟨⟨x0,x1,x2,x3⟩,?_,?_,?_,?_⟩
   ·have hr:=(l4 r0 (l4 r1 (l4 r2 (l4 r3 (ID hl)))));rw[gR]at hr;rw[qH.kN];simpa only[gU,gW,gX,gY] using hr
   ·have ho:=(l5 o0 (l5 o1 (l5 o2 (l5 o3 (IE hl)))));rw[gR]at ho;exact ho
   ·simp only[gZ,hJ,Rows.uptoBulk,Rows.uptoBulkAll,qH.kQ];omega
   ·exact⟨w0,w1,w2,w3,trivial⟩
def kz.kQ(x:kz):Nat:=1+((x.name.length+1)+(1+(x.type.kQ+(x.value.kQ+(1+(qB mI.kQ x.q5+(x.oZ.kQ+(qB qH.kQ x.Aj+1))))))))
def kz.wf(x:kz):Prop:=wfI .i64 x.kind/\True/\wfI .i64 x.params/\x.type.wf/\x.value.wf/\wfI .i64 x.GS/\(∀y∈x.q5,y.wf)/\x.oZ.wf/\(∀y∈x.Aj,y.wf)/\True
def kz.read:∀(n:Nat)(cs:List aRS)(x:DataW H×List MemPlace),gV en gS aQ5 0 sp held n 131 cs=some x->ac0 gS aQ5 kz.cells kz.kQ kz.wf cs x.1
 |n,cs,x,h=>by
  obtain⟨xs,m,hm,rfl,hl,hlen,hf⟩:=gT (fs:=Tryz.prog.fieldsOf 131) (by kernel_rfl) h;have hsz:Tryz.prog.cellsOf 131=23:=by kernel_rfl
  have hfs:(Tryz.prog.fieldsOf 131).size=9:=by kernel_rfl
  rw[hsz]at hl;rw[hfs]at hlen;have h0:=mU (i:=0) (ty:=3) (off:=0) (sz:=1) (by kernel_rfl) (by kernel_rfl) hf (by omega);have h1:=mU (i:=1) (ty:=9) (off:=1) (sz:=1) (by kernel_rfl) (by kernel_rfl) hf (by omega);have h2:=mU (i:=2) (ty:=3) (off:=2) (sz:=1) (by kernel_rfl) (by kernel_rfl) hf (by omega);have h3:=mU (i:=3) (ty:=49) (off:=3) (sz:=5) (by kernel_rfl) (by kernel_rfl) hf (by omega);have h4:=mU (i:=4) (ty:=49) (off:=8) (sz:=5) (by kernel_rfl) (by kernel_rfl) hf (by omega);have h5:=mU (i:=5) (ty:=3) (off:=13) (sz:=1) (by kernel_rfl) (by kernel_rfl) hf (by omega);have h6:=mU (i:=6) (ty:=126) (off:=14) (sz:=1) (by kernel_rfl) (by kernel_rfl) hf (by omega);have h7:=mU (i:=7) (ty:=128) (off:=15) (sz:=7) (by kernel_rfl) (by kernel_rfl) hf (by omega);have h8:=mU (i:=8) (ty:=129) (off:=22) (sz:=1) (by kernel_rfl) (by kernel_rfl) hf (by omega)
  match xs,hlen,h0,h1,h2,h3,h4,h5,h6,h7,h8 with
  |[y0,y1,y2,y3,y4,y5,y6,y7,y8],_,h0,h1,h2,h3,h4,h5,h6,h7,h8=>
   obtain⟨x0,r0,o0,b0,w0⟩:=K4 (t:=3) (k:=.i64) (by kernel_rfl) h0;obtain⟨x1,r1,o1,b1,w1⟩:=Oz (t:=9) (by kernel_rfl) h1;obtain⟨x2,r2,o2,b2,w2⟩:=K4 (t:=3) (k:=.i64) (by kernel_rfl) h2;obtain⟨x3,r3,o3,b3,w3⟩:=jW.read m _ _ h3;obtain⟨x4,r4,o4,b4,w4⟩:=jW.read m _ _ h4;obtain⟨x5,r5,o5,b5,w5⟩:=K4 (t:=3) (k:=.i64) (by kernel_rfl) h5;obtain⟨x6,r6,o6,b6,w6⟩:=xC (t:=126) (e:=199) (sz:=6) (enc:=mI.cells) (bk:=mI.kQ) (wf:=mI.wf) (by kernel_rfl) (by kernel_rfl) (by decide) mI.length (fun k hk cs x h=>mI.read k cs x h) h6;obtain⟨x7,r7,o7,b7,w7⟩:=kV.read m _ _ h7;obtain⟨x8,r8,o8,b8,w8⟩:=xC (t:=129) (e:=204) (sz:=15) (enc:=qH.cells) (bk:=qH.kQ) (wf:=qH.wf) (by kernel_rfl) (by kernel_rfl) (by decide) qH.length (fun k hk cs x h=>qH.read k cs x h) h8;have b0:1<=Rows.uptoBulk y0.1:=b0;have b1:(x1.length+1)<=Rows.uptoBulk y1.1:=b1;have b2:1<=Rows.uptoBulk y2.1:=b2;have b3:x3.kQ<=Rows.uptoBulk y3.1:=b3;have b4:x4.kQ<=Rows.uptoBulk y4.1:=b4;have b5:1<=Rows.uptoBulk y5.1:=b5;have b6:qB mI.kQ x6<=Rows.uptoBulk y6.1:=b6;have b7:x7.kQ<=Rows.uptoBulk y7.1:=b7;have b8:qB qH.kQ x8<=Rows.uptoBulk y8.1:=b8;refine⟨⟨x0,x1,x2,x3,x4,x5,x6,x7,x8⟩,?_,?_,?_,?_⟩
   ·have hr:=(l4 r0 (l4 r1 (l4 r2 (l4 r3 (l4 r4 (l4 r5 (l4 r6 (l4 r7 (l4 r8 (ID hl))))))))));rw[gR]at hr;rw[kz.kN];simpa only[gU,gW,gX,gY] using hr
   ·have ho:=(l5 o0 (l5 o1 (l5 o2 (l5 o3 (l5 o4 (l5 o5 (l5 o6 (l5 o7 (l5 o8 (IE hl))))))))));rw[gR]at ho;exact ho
   ·simp only[gZ,hJ,Rows.uptoBulk,Rows.uptoBulkAll,kz.kQ];omega
   ·exact⟨w0,w1,w2,w3,w4,w5,w6,w7,w8,trivial⟩
def kC.kQ(x:kC):Nat:=(x.name.length+1)+(qB (fun _=>1) x.atb+1)
def kC.wf(x:kC):Prop:=True/\(∀y∈x.atb,wfI .i64 y)/\True
def kC.read:∀(n:Nat)(cs:List aRS)(x:DataW H×List MemPlace),gV en gS aQ5 0 sp held n 432 cs=some x->ac0 gS aQ5 kC.cells kC.kQ kC.wf cs x.1
 |n,cs,x,h=>by
  obtain⟨xs,m,hm,rfl,hl,hlen,hf⟩:=gT (fs:=Tryz.prog.fieldsOf 432) (by kernel_rfl) h;have hsz:Tryz.prog.cellsOf 432=2:=by kernel_rfl
  have hfs:(Tryz.prog.fieldsOf 432).size=2:=by kernel_rfl
  rw[hsz]at hl;rw[hfs]at hlen;have h0:=mU (i:=0) (ty:=9) (off:=0) (sz:=1) (by kernel_rfl) (by kernel_rfl) hf (by omega);have h1:=mU (i:=1) (ty:=247) (off:=1) (sz:=1) (by kernel_rfl) (by kernel_rfl) hf (by omega)
  match xs,hlen,h0,h1 with
  |[y0,y1],_,h0,h1=>
   obtain⟨x0,r0,o0,b0,w0⟩:=Oz (t:=9) (by kernel_rfl) h0;obtain⟨x1,r1,o1,b1,w1⟩:=xC (t:=247) (e:=3) (sz:=1) (enc:=Ui) (bk:=(fun _=>1)) (wf:=(wfI .i64)) (by kernel_rfl) (by kernel_rfl) (by decide) (fun _=>rfl) (fun k hk cs x h=>K4 (t:=3) (k:=.i64) (by kernel_rfl) h) h1;have b0:(x0.length+1)<=Rows.uptoBulk y0.1:=b0;have b1:qB (fun _=>1) x1<=Rows.uptoBulk y1.1:=b1;refine⟨⟨x0,x1⟩,?_,?_,?_,?_⟩
   ·have hr:=(l4 r0 (l4 r1 (ID hl)));rw[gR]at hr;rw[kC.kN];simpa only[gU,gW,gX,gY] using hr
   ·have ho:=(l5 o0 (l5 o1 (IE hl)));rw[gR]at ho;exact ho
   ·simp only[gZ,hJ,Rows.uptoBulk,Rows.uptoBulkAll,kC.kQ];omega
   ·exact⟨w0,w1,trivial⟩
def kH.kQ(x:kH):Nat:=qB kz.kQ x.env+(qB kC.kQ x.wX+(qB (fun m:kj=>m.length+1) x.Cy+(qB (fun m:kj=>m.length+1) x.instances+(qB jR.kQ x.sW+(qB (fun m:kj=>m.length+1) x.sB+(qB (fun m:kj=>m.length+1) x.opens+1))))))
def kH.wf(x:kH):Prop:=(∀y∈x.env,y.wf)/\(∀y∈x.wX,y.wf)/\(∀y∈x.Cy,True)/\(∀y∈x.instances,True)/\(∀y∈x.sW,y.wf)/\(∀y∈x.sB,True)/\(∀y∈x.opens,True)/\True
def kH.read:∀(n:Nat)(cs:List aRS)(x:DataW H×List MemPlace),gV en gS aQ5 0 sp held n 45 cs=some x->ac0 gS aQ5 kH.cells kH.kQ kH.wf cs x.1
 |n,cs,x,h=>by
  obtain⟨xs,m,hm,rfl,hl,hlen,hf⟩:=gT (fs:=Tryz.prog.fieldsOf 45) (by kernel_rfl) h;have hsz:Tryz.prog.cellsOf 45=7:=by kernel_rfl
  have hfs:(Tryz.prog.fieldsOf 45).size=7:=by kernel_rfl
  rw[hsz]at hl;rw[hfs]at hlen;have h0:=mU (i:=0) (ty:=42) (off:=0) (sz:=1) (by kernel_rfl) (by kernel_rfl) hf (by omega);have h1:=mU (i:=1) (ty:=43) (off:=1) (sz:=1) (by kernel_rfl) (by kernel_rfl) hf (by omega);have h2:=mU (i:=2) (ty:=23) (off:=2) (sz:=1) (by kernel_rfl) (by kernel_rfl) hf (by omega);have h3:=mU (i:=3) (ty:=23) (off:=3) (sz:=1) (by kernel_rfl) (by kernel_rfl) hf (by omega);have h4:=mU (i:=4) (ty:=22) (off:=4) (sz:=1) (by kernel_rfl) (by kernel_rfl) hf (by omega);have h5:=mU (i:=5) (ty:=23) (off:=5) (sz:=1) (by kernel_rfl) (by kernel_rfl) hf (by omega);have h6:=mU (i:=6) (ty:=23) (off:=6) (sz:=1) (by kernel_rfl) (by kernel_rfl) hf (by omega)
  match xs,hlen,h0,h1,h2,h3,h4,h5,h6 with
  |[y0,y1,y2,y3,y4,y5,y6],_,h0,h1,h2,h3,h4,h5,h6=>
   obtain⟨x0,r0,o0,b0,w0⟩:=xC (t:=42) (e:=131) (sz:=23) (enc:=kz.cells) (bk:=kz.kQ) (wf:=kz.wf) (by kernel_rfl) (by kernel_rfl) (by decide) kz.length (fun k hk cs x h=>kz.read k cs x h) h0;obtain⟨x1,r1,o1,b1,w1⟩:=xC (t:=43) (e:=432) (sz:=2) (enc:=kC.cells) (bk:=kC.kQ) (wf:=kC.wf) (by kernel_rfl) (by kernel_rfl) (by decide) kC.length (fun k hk cs x h=>kC.read k cs x h) h1;obtain⟨x2,r2,o2,b2,w2⟩:=xC (t:=23) (e:=9) (sz:=1) (enc:=kX) (bk:=(fun m:kj=>m.length+1)) (wf:=(fun _=>True)) (by kernel_rfl) (by kernel_rfl) (by decide) (fun _=>rfl) (fun k hk cs x h=>Oz (t:=9) (by kernel_rfl) h) h2;obtain⟨x3,r3,o3,b3,w3⟩:=xC (t:=23) (e:=9) (sz:=1) (enc:=kX) (bk:=(fun m:kj=>m.length+1)) (wf:=(fun _=>True)) (by kernel_rfl) (by kernel_rfl) (by decide) (fun _=>rfl) (fun k hk cs x h=>Oz (t:=9) (by kernel_rfl) h) h3;obtain⟨x4,r4,o4,b4,w4⟩:=xC (t:=22) (e:=25) (sz:=4) (enc:=jR.cells) (bk:=jR.kQ) (wf:=jR.wf) (by kernel_rfl) (by kernel_rfl) (by decide) jR.length (fun k hk cs x h=>jR.read k cs x h) h4;obtain⟨x5,r5,o5,b5,w5⟩:=xC (t:=23) (e:=9) (sz:=1) (enc:=kX) (bk:=(fun m:kj=>m.length+1)) (wf:=(fun _=>True)) (by kernel_rfl) (by kernel_rfl) (by decide) (fun _=>rfl) (fun k hk cs x h=>Oz (t:=9) (by kernel_rfl) h) h5;obtain⟨x6,r6,o6,b6,w6⟩:=xC (t:=23) (e:=9) (sz:=1) (enc:=kX) (bk:=(fun m:kj=>m.length+1)) (wf:=(fun _=>True)) (by kernel_rfl) (by kernel_rfl) (by decide) (fun _=>rfl) (fun k hk cs x h=>Oz (t:=9) (by kernel_rfl) h) h6;have b0:qB kz.kQ x0<=Rows.uptoBulk y0.1:=b0;have b1:qB kC.kQ x1<=Rows.uptoBulk y1.1:=b1;have b2:qB (fun m:kj=>m.length+1) x2<=Rows.uptoBulk y2.1:=b2;have b3:qB (fun m:kj=>m.length+1) x3<=Rows.uptoBulk y3.1:=b3;have b4:qB jR.kQ x4<=Rows.uptoBulk y4.1:=b4;have b5:qB (fun m:kj=>m.length+1) x5<=Rows.uptoBulk y5.1:=b5;have b6:qB (fun m:kj=>m.length+1) x6<=Rows.uptoBulk y6.1:=b6;refine⟨⟨x0,x1,x2,x3,x4,x5,x6⟩,?_,?_,?_,?_⟩
   ·have hr:=(l4 r0 (l4 r1 (l4 r2 (l4 r3 (l4 r4 (l4 r5 (l4 r6 (ID hl))))))));rw[gR]at hr;rw[kH.kN];simpa only[gU,gW,gX,gY] using hr
   ·have ho:=(l5 o0 (l5 o1 (l5 o2 (l5 o3 (l5 o4 (l5 o5 (l5 o6 (IE hl))))))));rw[gR]at ho;exact ho
   ·simp only[gZ,hJ,Rows.uptoBulk,Rows.uptoBulkAll,kH.kQ];omega
   ·exact⟨w0,w1,w2,w3,w4,w5,w6,trivial⟩
def ky.kQ(x:ky):Nat:=x.st.kQ+(qB (fun m:kj=>m.length+1) x.kg+(qB (fun m:kj=>m.length+1) x.mA+(x.term.kQ+1)))
def ky.wf(x:ky):Prop:=x.st.wf/\(∀y∈x.kg,True)/\(∀y∈x.mA,True)/\x.term.wf/\True
def ky.read:∀(n:Nat)(cs:List aRS)(x:DataW H×List MemPlace),gV en gS aQ5 0 sp held n 51 cs=some x->ac0 gS aQ5 ky.cells ky.kQ ky.wf cs x.1
 |n,cs,x,h=>by
  obtain⟨xs,m,hm,rfl,hl,hlen,hf⟩:=gT (fs:=Tryz.prog.fieldsOf 51) (by kernel_rfl) h;have hsz:Tryz.prog.cellsOf 51=14:=by kernel_rfl
  have hfs:(Tryz.prog.fieldsOf 51).size=4:=by kernel_rfl
  rw[hsz]at hl;rw[hfs]at hlen;have h0:=mU (i:=0) (ty:=45) (off:=0) (sz:=7) (by kernel_rfl) (by kernel_rfl) hf (by omega);have h1:=mU (i:=1) (ty:=23) (off:=7) (sz:=1) (by kernel_rfl) (by kernel_rfl) hf (by omega);have h2:=mU (i:=2) (ty:=23) (off:=8) (sz:=1) (by kernel_rfl) (by kernel_rfl) hf (by omega);have h3:=mU (i:=3) (ty:=49) (off:=9) (sz:=5) (by kernel_rfl) (by kernel_rfl) hf (by omega)
  match xs,hlen,h0,h1,h2,h3 with
  |[y0,y1,y2,y3],_,h0,h1,h2,h3=>
   obtain⟨x0,r0,o0,b0,w0⟩:=kH.read m _ _ h0;obtain⟨x1,r1,o1,b1,w1⟩:=xC (t:=23) (e:=9) (sz:=1) (enc:=kX) (bk:=(fun m:kj=>m.length+1)) (wf:=(fun _=>True)) (by kernel_rfl) (by kernel_rfl) (by decide) (fun _=>rfl) (fun k hk cs x h=>Oz (t:=9) (by kernel_rfl) h) h1;obtain⟨x2,r2,o2,b2,w2⟩:=xC (t:=23) (e:=9) (sz:=1) (enc:=kX) (bk:=(fun m:kj=>m.length+1)) (wf:=(fun _=>True)) (by kernel_rfl) (by kernel_rfl) (by decide) (fun _=>rfl) (fun k hk cs x h=>Oz (t:=9) (by kernel_rfl) h) h2;obtain⟨x3,r3,o3,b3,w3⟩:=jW.read m _ _ h3;have b0:x0.kQ<=Rows.uptoBulk y0.1:=b0;have b1:qB (fun m:kj=>m.length+1) x1<=Rows.uptoBulk y1.1:=b1;have b2:qB (fun m:kj=>m.length+1) x2<=Rows.uptoBulk y2.1:=b2;have b3:x3.kQ<=Rows.uptoBulk y3.1:=b3;refine⟨⟨x0,x1,x2,x3⟩,?_,?_,?_,?_⟩
   ·have hr:=(l4 r0 (l4 r1 (l4 r2 (l4 r3 (ID hl)))));rw[gR]at hr;rw[ky.kN];simpa only[gU,gW,gX,gY] using hr
   ·have ho:=(l5 o0 (l5 o1 (l5 o2 (l5 o3 (IE hl)))));rw[gR]at ho;exact ho
   ·simp only[gZ,hJ,Rows.uptoBulk,Rows.uptoBulkAll,ky.kQ];omega
   ·exact⟨w0,w1,w2,w3,trivial⟩
open Go.Proofs Go.Proofs.YtpdbjkgnmjnebaaGreatDoor Go.RowKit
section
variable {enc:aRT×aRS->H}
def avQ{a:Assume}{C:Checked}{os:Os}{fn:Func}{s:OpenSpec}{k:(H:Type)->List (DataW H)->Bool}(hk:s.cond=some k){F:Stop.Interp}{conds:List PathCond}{apart fresh again:Bool}
 (own:ownKnob C.prog.godebug=none) (started:os.Started) (aM5:C.prog.inits.idxOf? f=none) (hfn:C.prog.funcs[f]? =some fn)
 (witness:∃(w:aRU)(tape:Tape)(i:Input),w.os=os/\(w.forCall tape i).Shaped C.prog/\i.vars=[]/\Input.okWide C.prog (w.forCall tape i) .any w.heap.size f i/\
   s.pre6 enc C.prog fn conds apart (w.forCall tape i).memory i.args/\a.holds C.prog (lone (Frame.enter C.prog f i.args .normal) [] (w.forCall tape i)))
 (contract:∀(aQ5:aRU)(base:Nat)(args:Array aRS)(ds gs:List (DataW H))(before:List MemPlace),
   (∀(j:Nat) t v,fn.params[j]? =some t->args[j]? =some v->hU C.prog aQ5 .any base t v)->
   DataW.Whole enc C.prog fn.params.toList s.vars apart aQ5 args.toList ds gs before->
   conds.all (PathCond.test C.prog ⟨fn.params.toList,ds,s.bare.plain.varTypes C.prog,gs⟩)=true->k H (ds++gs)=true->aQ5.ShapedOpen C.prog->
   Calls C.prog f args aQ5 fun e aQ6=>∃v,e=.returned v/\(s.at F).post enc C.prog fn apart fresh handsOn again aQ5 args v aQ6):
 ReturnsInHanded a C os f .any (s.pre6 enc C.prog fn conds apart) ((s.at F).post enc C.prog fn apart fresh handsOn again):=by
 refine returnsInHanded_of_calls own started aM5 witness ?_;intro w tape i _ hsh _ Ue aQf aQg;obtain⟨_,_,_,fn',aQh,_,_,_,_,hval⟩:=Ue;have e:fn'=fn:=Option.some.inj (aQh.symm.trans hfn);subst e;obtain⟨ds,gs,before,hw,hc,hkk⟩:=(OpenSpec.pre_some hk conds apart _ _).1 aQf.1;have hw':=DataW.Whole.of_heap (w':=w.forCall tape i) (by rfl) hw;refine(contract (w.forCall tape i) w.heap.size i.args ds gs before hval hw' hc hkk hsh).mono fun e aQ6 ⟨v,he,hp⟩=>?_
 subst he;exact ChangeSpec.post_blind hp
end
section
variable {P:Program} {aQ6:aRU}
def aE3(aQ5 aQ6:aRU):Prop:=aQ5.heap.size<=aQ6.heap.size/\(∀b,b<aQ5.heap.size->aQ6.heap[b]? =aQ5.heap[b]?)/\(∀x,x.block<aQ5.heap.size->aQ6.frozen? x=aQ5.frozen? x)/\aQ6.output=aQ5.output/\aQ6.os=aQ5.os
def aK7(hk:ay8 aQ5 (fun _ _=>False)){args:List AV}{X:AV}{vs:Array aRS}(h:I5 P f args (fun r=>r=X))(hr:kP (ayA P aQ5) args vs.toList):
 Calls P f vs aQ5 fun e aQ6=>∃v U',e=.returned v/\pm ((aO4 P aQ5 hk).env U' [] aQ6) X v/\aE3 aQ5 aQ6:=by
 refine(h.2.2 (aO4 P aQ5 hk) (fun _=>undef) aQ5 rfl rfl rfl (fun _ _ h=>h) vs hr).mono ?_;rintro e aQ6 ⟨r,v,U',rfl,he,tD,h1,h2,h3,h4,h5⟩;exact⟨v,U',he,tD,h1,h2,h3,h4,h5⟩
def aE3.kept(h:aE3 aQ5 aQ6)(may:MemPlace->Prop):aQ5.keptBut aQ6 may:=by
 obtain⟨h1,h2,h3,h4,h5⟩:=h;refine⟨h5,h4,fun i hi=>?_⟩;rw[h2 i hi];cases aQ5.heap[i]? with
 |none=>rfl
 |some o=>
  cases o with
  |cells c t fr=>exact⟨rfl,rfl,rfl,fun _ _=>rfl⟩
  |map es clock=>exact .inr ⟨rfl,rfl⟩
  |_=>rfl
def aI1{enc:aRT×aRS->H}{f:Func}{s:ChangeSpec}{apart fresh again:Bool}{args:Array aRS}{ds gs:List (DataW H)}{before pa pv:List MemPlace}
 (hW:DataW.Whole enc P f.params.toList s.vars apart aQ5 args.toList ds gs before)
 (aO5:∀(b:Nat)(sp:Nat->Bool)(hd:Bool),DataW.TrodAll enc P aQ6 b sp hd f.resultTypes.toList (v.resultList f.resultTypes.size) (s.fn H (ds++gs)).results [])
 (Ye:∀sp:Nat->Bool,(∀p∈before,sp p.block=true)->DataW.TrodAll enc P aQ6 0 sp true f.params.toList args.toList (s.fn H (ds++gs)).args pa)
 (aLF:∀sp:Nat->Bool,(∀p∈before,sp p.block=true)->DataW.TrodVars enc P aQ6 sp s.vars (s.fn H (ds++gs)).vars pv)
 (hps:before=pa++pv) (hk:aQ5.keptBut aQ6 (· ∈before)) (hfz:∀a,a.block<aQ5.heap.size->aQ6.frozen? a=aQ5.frozen? a)
 (Ue:∀(j:Nat)(t:aRT)(r:aRS),f.resultTypes[j]? =some t->(v.resultList f.resultTypes.size)[j]? =some r->hU P aQ6 .any 0 t r):
 s.post enc P f apart fresh handsOn again aQ5 args v aQ6:=by
 have hold:∀p∈before,(fun b=>decide (b<aQ5.heap.size)) p.block=true:=fun p hp=>by simpa using hW.lt p hp
 have sJ:=hW.lt;refine⟨ds,gs,before,[],pa,pv,hW,aO5 _ _ _,Ye _ hold,aLF _ hold,World.keptBut_mono (fun p hp=>⟨hp,?_⟩) hk,fun _=>?_⟩
 ·rw[hps,List.mem_append]at hp;exact Or.inr hp
 ·obtain⟨_,_,_,_,_,hz,hn⟩:=hW;refine⟨Ue,_,_,([]++pa)++pv,⟨[]++pa,pv,Go.ChangeShapes.trodAll_append (Ye _ (fun _ _=>rfl)) (aO5 _ _ _),aLF _ (fun _ _=>rfl),rfl,?_,?_⟩,?_⟩
  ·intro b off hp;have hp':MemPlace.cell b off∈before:=by rw[hps];simpa using hp
   rw[hfz _ (sJ _ hp')];exact hz b off hp'
  ·intro ha;have:=hn ha;rw[hps]at this;simpa using this
  ·intro p hp _;rw[hps];simpa using hp
def aNl(hl:laidOutB P=true)(hr:P.readableRec t=true)(aKX:t<P.types.size){d:DataW H}
 (h:ii en P aQ5 0 (fun _=>true) true t v d ps) (hL:aE3 aQ5 aQ6) (hs:∀p∈ps,sp p.block=true):ii en P aQ6 0 sp true t v d ps:=by
 refine WideElems.Trod_stays hl hr aKX h (fun p hp=>?_) hs;obtain⟨n,hn⟩:=h;have hb:=DataW.trod_lt n t _ _ hn p hp;cases p with
 |cell b off=>
  have sK:b<aQ5.heap.size:=hb;show aQ6.cell? ⟨b,off,none⟩=aQ5.cell? ⟨b,off,none⟩;simp only[World.cell?,hL.2.1 b sK]
 |map b=>exact hL.2.1 b hb
def aM6{e:W->List AV}{wf:W->Prop}{d:DataW H}(ht:P.underlying t=some (.struct fs))(hval:hU P aQ5 .any base t v)
 (h:ii en P aQ5 0 (fun _=>true) true t v d ps) (aID:∀n cs x,gV en P aQ5 0 (fun _=>true) true n t cs=some x->ac0 P aQ5 e bk wf cs x.1):
 ∃x,pm (ayA P aQ5) (.agg (e x)) v/\bk x<=Rows.uptoBulk d/\wf x:=by
 obtain⟨cs,rfl,_⟩:=WideShapes.okWide_struct ht hval;obtain⟨n,hn⟩:=h;obtain⟨x,hr,_,hb,hw⟩:=aID n _ _ hn;exact⟨x,⟨cs,rfl,hr⟩,hb,hw⟩
def aO6{e:W->AV}{wf:W->Prop}{d:DataW H}(hv:v.cells.toList=[v])
 (h:ii en P aQ5 0 (fun _=>true) true t v d ps) (aID:∀n cs x,gV en P aQ5 0 (fun _=>true) true n t cs=some x->ac0 P aQ5 (fun x=>[e x]) bk wf cs x.1):
 ∃x,pm (ayA P aQ5) (e x) v/\bk x<=Rows.uptoBulk d/\wf x:=by
 obtain⟨n,hn⟩:=h;obtain⟨x,hr,_,hb,hw⟩:=aID n _ _ hn;rw[hv]at hr;obtain⟨u,us,he,h1,_⟩:=hr;simp only[List.cons.injEq]at he;obtain⟨rfl,_⟩:=he;exact⟨x,h1,hb,hw⟩
def aO7(ht:P.underlying t=some (.int k))(hval:hU P aQ5 .any base t v):v.cells.toList=[v]:=by
 obtain⟨n,rfl⟩:=WideShapes.okWide_int ht hval;rfl
def aLG(ht:P.underlying t=some .string)(hval:hU P aQ5 .any base t v):v.cells.toList=[v]:=by
 obtain⟨n,rfl⟩:=WideShapes.okWide_string ht hval;rfl
def aNm(ht:P.underlying t=some .bool)(hval:hU P aQ5 .any base t v):v.cells.toList=[v]:=by
 obtain⟨n,rfl⟩:=WideShapes.okWide_bool ht hval;rfl
def aM7 {e:aRT}(ht:P.underlying t=some (.slice e))(hval:hU P aQ5 .any base t v):v.cells.toList=[v]:=by
 obtain⟨a,l,c,rfl⟩:=WideShapes.okWide_slice ht hval;rfl
def aM8(ht:∀fs,P.underlying t≠some (.struct fs))(ht':∀n e,P.underlying t≠some (.array n e))(hval:hU P aQ5 .any base t v)(hv:∀cs,v≠ .agg cs):v.cells.toList=[v]:=by
 cases v<;>first|rfl|exact absurd rfl (hv _)
end
open Go.Proofs Go.Proofs.YtpdbjkgnmjnebaaGreatDoor Go.MakeChecks
def aQw(h:aQ5.ShapedOpen gS)(hl:laidMetH gS Rows.topNotationsApartRow.laid aQ5):ay8 aQ5 (fun _ _=>False):=by
 refine⟨?_,?_⟩;rintro b o (⟨rfl,rfl⟩|⟨rfl,ho⟩)
 ·obtain⟨m,hm⟩:=cell_of_shapedOpen_int (g:=0) (t:=3) (zero:= #[.int .i64 0]) (k:=.i64) h (of_decide_eq_true (by kernel_rfl)) (by kernel_rfl) rfl (by kernel_rfl) (by kernel_rfl) (by kernel_rfl);exact⟨_,hm,⟨fun _=>⟨m,rfl⟩,fun f=>by cases f⟩,fun f=>f⟩
 ·rw[laidMetH_plain _ _ _ (by kernel_rfl)]at hl;have hm:=(hO (hO (hO (hO (hO (hO (hO hl)))))));have e:(Rows.laid_strings_asciiSpace:DataW Unit)=Lib.tabData .u8 ((List.range 256).map arU):=by kernel_rfl
  rw[e]at hm;have ht:=Lib.tabIs_of_head (P:=gS) (g:=1) (t:=330) (e:=5) (n:=256) (by kernel_rfl) (by kernel_rfl) (by kernel_rfl) (by kernel_rfl) (by kernel_rfl) (by kernel_rfl) hm;have hc:=ht.cell (g:=1) (by kernel_rfl) o (by simpa using ho)
  have hz:((List.range 256).map arU).getD o 0=arU o:=by
   rw[List.getD_eq_getElem?_getD,List.getElem?_map,List.getElem?_range ho];rfl
  rw[hz]at hc;exact⟨_,hc,⟨fun f=>(by cases f),fun _=>rfl⟩,fun f=>f⟩
 ·rintro b rfl;refine⟨fun _ f=>f,?_⟩;rw[laidMetH_plain _ _ _ (by kernel_rfl)]at hl;have hm:=(hO (hO hl));have e:(Rows.laid_internal_strconv_uint64pow10:DataW Unit)=Lib.tabData .u64 Lib.pow10Tab:=by kernel_rfl
  rw[e] at hm;have ht:=Lib.tabIs_of_head (P:=gS) (g:=3) (t:=370) (e:=352) (n:=20) (by kernel_rfl) (by kernel_rfl) (by kernel_rfl) (by kernel_rfl) (by kernel_rfl) (by kernel_rfl) hm;unfold Lib.TabIs World.var? at ht;rw[show Tryz.prog.globalNamed "internal/strconv.uint64pow10" =some 3 by kernel_rfl,Option.bind_some] at ht;split at ht
  ·rename_i cs t fz hh;exact⟨t,fz,by rw[hh,Option.some.inj ht];rfl⟩
  ·cases ht
end Go.Abs
namespace Go.Proofs.YtpdbjkgnmjnebaaGreatDoor
open Go.RowKit
abbrev aLH:List (String×DataW Unit):=[("math/bits.deBruijn32tab",Rows.laid_math_bits_deBruijn32tab),("math/bits.deBruijn64tab",Rows.laid_math_bits_deBruijn64tab),("internal/strconv.uint64pow10",Rows.laid_internal_strconv_uint64pow10),("unicode/utf8.acceptRanges",Rows.laid_unicode_utf8_acceptRanges),("strconv.ErrRange",Rows.laid_strconv_ErrRange),("strconv.ErrSyntax",Rows.laid_strconv_ErrSyntax),("unicode.White_Space",Rows.laid_unicode_White_Space),("strings.asciiSpace",Rows.laid_strings_asciiSpace),("unicode/utf8.first",Rows.laid_unicode_utf8_first)]
noncomputable def awS (os:Os):aRU:=World.laidAll gS os aLH
def aK8(os:Os):(awS os).os=os:=World.laidAll_os _ _ _
def aO8(os:Os)(args:Array aRS):laidMet gS aLH ((awS os).forCall (fun _ _=>0) ⟨#[],args,[]⟩).memory:=
 laidMet_laidAll args (by kernel_rfl) (by kernel_rfl)
end Go.Proofs.YtpdbjkgnmjnebaaGreatDoor
