/- A part of the proof: reading of arguments. -/
import Derived.Test.YtpdbjkgnmjnebaaGreatDoorDataA
import Derived.Test.YtpdbjkgnmjnebaaGreatDoorRows
import Derived.ChangeArms
import Derived.WalkKit
import Derived.ProofKit
import Derived.OpenShut
import Derived.JoinedCond
import Derived.WideKeyArgs
import Derived.Carry
import Derived.Test.YtpdbjkgnmjnebaaGreatDoorCoreA
import Derived.Shelf.Vars
import Derived.Stop.LaidErr
import Derived.MakeChecks
import Derived.Lib.LaidTab
import Derived.Lib.ItoaNum
import Derived.Test.YtpdbjkgnmjnebaaGreatDoorCards
import Derived.Test.YtpdbjkgnmjnebaaGreatDoorTie
import Derived.Deep.DeepHandedRow
import Derived.Lay
import Derived.Deep.DeepWitnessRowRef
import Derived.Test.YtpdbjkgnmjnebaaGreatDoorWalkA
import Derived.Test.YtpdbjkgnmjnebaaGreatDoorWalkB
import Derived.Test.YtpdbjkgnmjnebaaGreatDoorWalkC
import Derived.Test.YtpdbjkgnmjnebaaGreatDoorWalkD
import Derived.Test.YtpdbjkgnmjnebaaGreatDoorWalkE
set_option linter.all false
open Go renaming Value→aTO,TypeId→aTP,World→aTQ
open List renaming drop_zero→gY,append_assoc→hO,cons_append→ia,nil_append→ib,append_nil→ic,map_cons→ig,map_nil→ii,getElem?_eq_getElem→il,drop_of_length_le→ir,take_append_drop→iv
open Go.Proofs.Tryz renaming prog→gZ
open Go.DataW renaming trod_struct→hJ,trod→hU,Trod→iw
open Go.laidMet renaming tail→ij
open Go.Value renaming okWide→ik,oneCell'→iq
namespace Go.Abs
variable {fs:Array Field}{handsOn held:Bool}{E:D4}{f:FuncId}{k:IntKind}{ps:List MemPlace}{cs:List aTO}{base i n o off:Nat}{sp:Nat->Bool}{H W:Type}{t:aTP}{en:aTP×aTO->H}{v:aTO}{aS1:aTQ}{bk:W->Nat}
open Go.Proofs.YtpdbjkgnmjnebaaGreatDoor
def aQ5(P:Program)(aS1:aTQ)(hk:aBB aS1 (fun _ _=>False)):qC:={P,w0:=aS1,M0:=fun _ _=>False,A:=fun _ _=>False,hA:=fun _ _ h=>h.elim,hk}
def aA6(P:Program)(aS1:aTQ):D4:={w:=aS1,mu:=fun b o=>G9 (fun _=>undef) [] b o\/False,U:=fun _=>undef,ln:=fun l=>mT ([]:List j6)[l]?,n:=0}
def aNg{P:Program}(b o:Nat): ¬ (aA6 P aS1).mu b o:=by
 simp only[aA6];rintro(⟨l,x,hx,_⟩|h)
 ·simp at hx
 ·exact h
section
variable {P:Program}
def wfI(k:IntKind)(n:Int):Prop:=(Lit.int k n).wf=true
def aNh{n:Int}(h:wfI .i64 n): -9223372036854775808<=n/\n<=9223372036854775807:=by
 simpa [wfI,Lit.wf,IntKind.min,IntKind.max,IntKind.signed,IntKind.bits] using h
def aSf{n:Int}(h:wfI .u8 n):0<=n/\n<=255:=by
 simpa [wfI,Lit.wf,IntKind.min,IntKind.max,IntKind.signed,IntKind.bits] using h
def aeB(P:Program)(aS1:aTQ)(e:W->List AV)(bk:W->Nat)(wf:W->Prop)(cs:List aTO)(d:DataW H):Prop:=
 ∃x,kQ (aA6 P aS1) (e x) cs/\(∀u∈cs,u.oneCell'=true)/\bk x<=Rows.uptoBulk d/\wf x
def LD{x:DataW H×List MemPlace}(ht:P.underlying t=some (.int k))(h:hU en P aS1 0 sp held n t cs=some x):
 aeB P aS1 (fun m:Int=>[.int k m]) (fun _=>1) (wfI k) cs x.1:=by
 obtain⟨m,rfl,rfl,hw⟩:=DataW.trod_int ht h;exact⟨m,⟨_,[],rfl,rfl,rfl⟩,by simp [iq],by simp [Rows.uptoBulk],hw⟩
def aNi{x:DataW H×List MemPlace}(ht:P.underlying t=some .bool)(h:hU en P aS1 0 sp held n t cs=some x):
 aeB P aS1 (fun m:Bool=>[.bool m]) (fun _=>1) (fun _=>True) cs x.1:=by
 obtain⟨m,rfl,rfl⟩:=DataW.trod_bool ht h;exact⟨m,⟨_,[],rfl,rfl,rfl⟩,by simp [iq],by simp [Rows.uptoBulk],trivial⟩
def Pc{x:DataW H×List MemPlace}(ht:P.underlying t=some .string)(h:hU en P aS1 0 sp held n t cs=some x):
 aeB P aS1 (fun m:kp=>[.str (sb m)]) (fun m=>m.length+1) (fun _=>True) cs x.1:=by
 obtain⟨s,rfl,rfl,_⟩:=DataW.trod_string ht h;exact⟨s.data.toList,⟨_,[],rfl,by rw[az2];rfl,rfl⟩,by simp [iq],by simp [Rows.uptoBulk],trivial⟩
def qa{W:Type}(bk:W->Nat):List W->Nat
 |[]=>1
 |x::xs=>bk x+qa bk xs
def alg{W:Type}{bk:W->Nat}:∀xs:List W,1<=qa bk xs
 |[]=>Nat.le_refl _
 |_::xs=>by have:=alg (bk:=bk) xs;simp only[qa];omega
def azn{b:Nat}:∀{cs:List AV}{vs:List aTO}{off:Nat},kQ (aA6 P aS1) cs vs->(∀u∈vs,u.oneCell'=true)->(∀j u,vs[j]? =some u->aS1.cell? ⟨b,off+j,none⟩=some u)->oU (aA6 P aS1) b off cs
 |[],_,_,_,_,_=>trivial
 |c::cs,_,off,⟨u,us,rfl,r1,r2⟩,h1,h2=>by
  refine⟨⟨aNg b off,u,h2 0 u (by simp),h1 u (by simp),r1⟩,azn r2 (fun v hv=>h1 v (by simp [hv])) (fun j v hj=>?_)⟩;rw[<-h2 (j+1) v (by simpa using hj)];congr 2;omega
def xJ {e:aTP}{sz:Nat}{enc:W->List AV}{wf:W->Prop}(ht:P.underlying t=some (.slice e))(hsz:P.cellsOf e=sz)(azN:0<sz)(hl: ∀x,(enc x).length=sz) (ih: ∀m,m<n-> ∀cs x,hU en P aS1 0 sp held m e cs=some x->aeB P aS1 enc bk wf cs x.1) {x:DataW H×List MemPlace} (h:hU en P aS1 0 sp held n t cs=some x):
 aeB P aS1 (fun xs:List W=>[.kJ false sz (mp enc xs)]) (qa bk) (fun xs=>∀y∈xs,wf y) cs x.1:=by
 rcases DataW.trod_slice ht h with⟨rfl,rfl⟩|⟨a,len,cap,elems,rest,m,hm,rfl,rfl,hb,hlc,hmx,hlen,hel,hsp,hns⟩
 ·refine⟨[],⟨_,[],rfl,?_,rfl⟩,by simp [iq],by simp [Rows.uptoBulk,qa],by simp⟩;rw[qj];exact⟨none,0,rfl,Nat.le_refl _,(by intro h;cases h),fun _=>rfl,(by intro a h;cases h),(by intro a h;cases h)⟩
 ·subst hsz
  have key:∀(k i:Nat),i+k=len->∃xs:List W,xs.length=k/\oo (aA6 P aS1) (P.cellsOf e) a.block (a.off+i*P.cellsOf e) (mp enc xs)/\qa bk xs<=Rows.uptoBulkAll ((elems.drop i).map (·.1))+1/\(∀y∈xs,wf y)/\(0<k->i=0->a.spot=none):=by
   intro k;induction k with
   |zero=>
    intro i hi;refine⟨[],rfl,by rw[qj];trivial,?_,by simp,by omega⟩;simp [qa]
   |succ k ihk=>
    intro i hi;obtain⟨xs,hxl,Pp,aNJ,hwf,_⟩:=ihk (i+1) (by omega);have hi':i<elems.length:=by omega
    have he:=hel i (by omega);rw[il hi']at he;obtain⟨vs,hvs,htr⟩:=Option.bind_eq_some_iff.1 he;obtain⟨y,hy,h1,hbk,hw⟩:=ih m (by omega) vs _ htr;obtain⟨_,hvl,ub⟩:=World.cells?_some hvs
    have asE:(a.add (i*P.cellsOf e)).spot=none:=by
     have h0:=ub 0 azN;have hv0:vs[0]? =some vs[0]:=il (by omega);rw[hv0]at h0;unfold World.cell? at h0;have:(a.add (i*P.cellsOf e)).add 0=a.add (i*P.cellsOf e):=by unfold Addr.add;simp
     rw[this]at h0;split at h0
     ·split at h0
      ·cases h0
      ·rename_i hs;simpa using hs
     ·cases h0
    have aSg:a.add (i*P.cellsOf e)=⟨a.block,a.off+i*P.cellsOf e,none⟩:=by
     unfold Addr.add at asE ⊢;split
     ·rename_i h0;rw[if_pos h0]at asE;cases a;simp_all
     ·rfl
    refine⟨y::xs,by simp [hxl],?_,?_,?_,?_⟩
    ·rw[qj]at Pp ⊢;refine⟨hl y,azn hy h1 (fun j u hj=>?_),?_⟩
     ·have hj':j<P.cellsOf e:=by rw[<-hvl];exact(List.getElem?_eq_some_iff.1 hj).1
      have:=ub j hj';rw[hj,aSg,Aj]at this;exact this
     ·have e2:a.off+i*P.cellsOf e+P.cellsOf e=a.off+(i+1)*P.cellsOf e:=by rw[Nat.add_mul];omega
      rw[e2];exact Pp
    ·have e3:elems.drop i=elems[i]::elems.drop (i+1):=List.drop_eq_getElem_cons hi';rw[e3];simp only[ig,Rows.uptoBulkAll,qa];omega
    ·intro z hz;simp only[List.mem_cons]at hz;rcases hz with rfl|hz
     ·exact hw
     ·exact hwf z hz
    ·intro _ h0;subst h0;rw[Nat.zero_mul]at asE;simpa [Addr.add] using asE
  obtain⟨xs,hxl,Pp,aNJ,hwf,asE⟩:=key len 0 (by omega);refine⟨xs,⟨_,[],rfl,?_,rfl⟩,by simp [iq],?_,hwf⟩
  ·refine⟨some a,cap,by rw[Qu,hxl],by rw[Qu,hxl];exact hlc,(by intro h;cases h),(by intro h;cases h),?_,?_⟩
   ·intro a' ha sB;cases ha
    have:0<len:=by
     rw[<-hxl,<-Qu enc xs];exact List.length_pos_iff.2 sB
    exact asE this rfl
   ·intro a' ha;cases ha;simpa using Pp
  ·simp only[gY]at aNJ;simp only[Rows.uptoBulk];omega
def fld {ty:Nat}(h:(fs[i]?).map (fun f=>(f.type,f.offset))=some (ty,off)):∃f,fs[i]? =some f/\f.type=ty/\f.offset=off:=by
 cases hf:fs[i]? with
 |none=>rw[hf]at h;cases h
 |some f=>rw[hf]at h;cases h;exact⟨f,rfl,rfl,rfl⟩
def mX {ty:Nat}{m sz:Nat}{xs:List (DataW H×List MemPlace)}(h:(fs[i]?).map (fun f=>(f.type,f.offset))=some (ty,off))(hsz:P.cellsOf ty=sz)
 (hf:∀(i:Nat)(f:Field),fs[i]? =some f->hU en P aS1 0 sp held m f.type ((cs.drop f.offset).take (P.cellsOf f.type))=xs[i]?) (hi:i<xs.length):hU en P aS1 0 sp held m ty ((cs.drop off).take sz)=some xs[i]:=by
 obtain⟨f,h1,rfl,rfl⟩:=fld h;rw[<-hsz,hf i f h1,il hi]
def me{a b:List AV}{s:Nat}(h1:kQ E a ((cs.drop o).take s))(h2:kQ E b (cs.drop (o+s))):kQ E (a++b) (cs.drop o):=by
 have:=kQ.append h1 h2;rw[<-List.drop_drop,iv]at this;exact this
def mg {s:Nat}(h1:∀u∈(cs.drop o).take s,u.oneCell'=true)(h2:∀u∈cs.drop (o+s),u.oneCell'=true):∀u∈cs.drop o,u.oneCell'=true:=by
 intro u hu;rw[<-iv s (cs.drop o),List.mem_append,List.drop_drop]at hu;rcases hu with hu|hu
 ·exact h1 u hu
 ·exact h2 u hu
def Jf(h:cs.length=o):kQ E [] (cs.drop o):=by
 rw[ir (by omega)];rfl
def Jg(h:cs.length=o):∀u∈cs.drop o,u.oneCell'=true:=by
 rw[ir (by omega)];simp
end
open Go.Proofs
open Go.Proofs.YtpdbjkgnmjnebaaGreatDoor
set_option maxRecDepth 100000
def jS.kU(x:jS):Nat:=qa (fun m:kp=>m.length+1) x.parts+(1+(1+((x.target.length+1)+1)))
def jS.wf(x:jS):Prop:=(∀y∈x.parts,True)/\wfI .i64 x.asL/\wfI .i64 x.asM/\True/\True
def jS.read:∀(n:Nat)(cs:List aTO)(x:DataW H×List MemPlace),hU en gZ aS1 0 sp held n 25 cs=some x->aeB gZ aS1 jS.cells jS.kU jS.wf cs x.1
 |n,cs,x,h=>by
  obtain⟨xs,m,hm,rfl,hl,hlen,hf⟩:=hJ (fs:=Tryz.prog.fieldsOf 25) (by kernel_rfl) h;have hsz:Tryz.prog.cellsOf 25=4:=by kernel_rfl
  have hfs:(Tryz.prog.fieldsOf 25).size=4:=by kernel_rfl
  rw[hsz]at hl;rw[hfs]at hlen;have h0:=mX (i:=0) (ty:=23) (off:=0) (sz:=1) (by kernel_rfl) (by kernel_rfl) hf (by omega);have h1:=mX (i:=1) (ty:=3) (off:=1) (sz:=1) (by kernel_rfl) (by kernel_rfl) hf (by omega);have h2:=mX (i:=2) (ty:=3) (off:=2) (sz:=1) (by kernel_rfl) (by kernel_rfl) hf (by omega);have h3:=mX (i:=3) (ty:=9) (off:=3) (sz:=1) (by kernel_rfl) (by kernel_rfl) hf (by omega)
  match xs,hlen,h0,h1,h2,h3 with
  |[y0,y1,y2,y3],_,h0,h1,h2,h3=>
   obtain⟨x0,r0,o0,b0,w0⟩:=xJ (t:=23) (e:=9) (sz:=1) (enc:=kS) (bk:=(fun m:kp=>m.length+1)) (wf:=(fun _=>True)) (by kernel_rfl) (by kernel_rfl) (by decide) (fun _=>rfl) (fun k hk cs x h=>Pc (t:=9) (by kernel_rfl) h) h0;obtain⟨x1,r1,o1,b1,w1⟩:=LD (t:=3) (k:=.i64) (by kernel_rfl) h1;obtain⟨x2,r2,o2,b2,w2⟩:=LD (t:=3) (k:=.i64) (by kernel_rfl) h2;obtain⟨x3,r3,o3,b3,w3⟩:=Pc (t:=9) (by kernel_rfl) h3;have b0:qa (fun m:kp=>m.length+1) x0<=Rows.uptoBulk y0.1:=b0;have b1:1<=Rows.uptoBulk y1.1:=b1;have b2:1<=Rows.uptoBulk y2.1:=b2;have b3:(x3.length+1)<=Rows.uptoBulk y3.1:=b3;refine⟨⟨x0,x1,x2,x3⟩,?_,?_,?_,?_⟩
   ·have hr:=(me r0 (me r1 (me r2 (me r3 (Jf hl)))));rw[gY]at hr;rw[jS.kP];simpa only[hO,ia,ib,ic] using hr
   ·have ho:=(mg o0 (mg o1 (mg o2 (mg o3 (Jg hl)))));rw[gY]at ho;exact ho
   ·simp only[ig,ii,Rows.uptoBulk,Rows.uptoBulkAll,jS.kU];omega
   ·exact⟨w0,w1,w2,w3,trivial⟩
def kD.kU(x:kD):Nat:=1+(1+1)
def kD.wf(x:kD):Prop:=wfI .i64 x.index/\wfI .i64 x.plus/\True
def kD.read:∀(n:Nat)(cs:List aTO)(x:DataW H×List MemPlace),hU en gZ aS1 0 sp held n 116 cs=some x->aeB gZ aS1 kD.cells kD.kU kD.wf cs x.1
 |n,cs,x,h=>by
  obtain⟨xs,m,hm,rfl,hl,hlen,hf⟩:=hJ (fs:=Tryz.prog.fieldsOf 116) (by kernel_rfl) h;have hsz:Tryz.prog.cellsOf 116=2:=by kernel_rfl
  have hfs:(Tryz.prog.fieldsOf 116).size=2:=by kernel_rfl
  rw[hsz]at hl;rw[hfs]at hlen;have h0:=mX (i:=0) (ty:=3) (off:=0) (sz:=1) (by kernel_rfl) (by kernel_rfl) hf (by omega);have h1:=mX (i:=1) (ty:=3) (off:=1) (sz:=1) (by kernel_rfl) (by kernel_rfl) hf (by omega)
  match xs,hlen,h0,h1 with
  |[y0,y1],_,h0,h1=>
   obtain⟨x0,r0,o0,b0,w0⟩:=LD (t:=3) (k:=.i64) (by kernel_rfl) h0;obtain⟨x1,r1,o1,b1,w1⟩:=LD (t:=3) (k:=.i64) (by kernel_rfl) h1;have b0:1<=Rows.uptoBulk y0.1:=b0;have b1:1<=Rows.uptoBulk y1.1:=b1;refine⟨⟨x0,x1⟩,?_,?_,?_,?_⟩
   ·have hr:=(me r0 (me r1 (Jf hl)));rw[gY]at hr;rw[kD.kP];simpa only[hO,ia,ib,ic] using hr
   ·have ho:=(mg o0 (mg o1 (Jg hl)));rw[gY]at ho;exact ho
   ·simp only[ig,ii,Rows.uptoBulk,Rows.uptoBulkAll,kD.kU];omega
   ·exact⟨w0,w1,trivial⟩
def kE.kU(x:kE):Nat:=1+(qa kD.kU x.vars+1)
def kE.wf(x:kE):Prop:=wfI .i64 x.const/\(∀y∈x.vars,y.wf)/\True
def kE.read:∀(n:Nat)(cs:List aTO)(x:DataW H×List MemPlace),hU en gZ aS1 0 sp held n 98 cs=some x->aeB gZ aS1 kE.cells kE.kU kE.wf cs x.1
 |n,cs,x,h=>by
  obtain⟨xs,m,hm,rfl,hl,hlen,hf⟩:=hJ (fs:=Tryz.prog.fieldsOf 98) (by kernel_rfl) h;have hsz:Tryz.prog.cellsOf 98=2:=by kernel_rfl
  have hfs:(Tryz.prog.fieldsOf 98).size=2:=by kernel_rfl
  rw[hsz]at hl;rw[hfs]at hlen;have h0:=mX (i:=0) (ty:=3) (off:=0) (sz:=1) (by kernel_rfl) (by kernel_rfl) hf (by omega);have h1:=mX (i:=1) (ty:=96) (off:=1) (sz:=1) (by kernel_rfl) (by kernel_rfl) hf (by omega)
  match xs,hlen,h0,h1 with
  |[y0,y1],_,h0,h1=>
   obtain⟨x0,r0,o0,b0,w0⟩:=LD (t:=3) (k:=.i64) (by kernel_rfl) h0;obtain⟨x1,r1,o1,b1,w1⟩:=xJ (t:=96) (e:=116) (sz:=2) (enc:=kD.cells) (bk:=kD.kU) (wf:=kD.wf) (by kernel_rfl) (by kernel_rfl) (by decide) kD.length (fun k hk cs x h=>kD.read k cs x h) h1;have b0:1<=Rows.uptoBulk y0.1:=b0;have b1:qa kD.kU x1<=Rows.uptoBulk y1.1:=b1;refine⟨⟨x0,x1⟩,?_,?_,?_,?_⟩
   ·have hr:=(me r0 (me r1 (Jf hl)));rw[gY]at hr;rw[kE.kP];simpa only[hO,ia,ib,ic] using hr
   ·have ho:=(mg o0 (mg o1 (Jg hl)));rw[gY]at ho;exact ho
   ·simp only[ig,ii,Rows.uptoBulk,Rows.uptoBulkAll,kE.kU];omega
   ·exact⟨w0,w1,trivial⟩
mutual
def jX.kU:jX->Nat
 |.mk kind index name kC lr=>1+(1+((name.length+1)+(qa kE.kU kC+(jX.alh lr+1))))
def jX.alh:List jX->Nat
 |[]=>1
 |x::xs=>x.kU+jX.alh xs
end
mutual
def jX.wf:jX->Prop
 |.mk kind index name kC lr=>wfI .i64 kind/\wfI .i64 index/\True/\(∀y∈kC,y.wf)/\jX.wfL lr/\True
def jX.wfL:List jX->Prop
 |[]=>True
 |x::xs=>x.wf/\jX.wfL xs
end
def jX.ali:∀xs,jX.alh xs=qa jX.kU xs
 |[]=>by simp only[jX.alh,qa]
 |x::xs=>by simp only[jX.alh,qa,jX.ali xs]
def jX.awL:∀xs,jX.wfL xs↔ ∀y∈xs,jX.wf y
 |[]=>by simp [jX.wfL]
 |x::xs=>by simp [jX.wfL,jX.awL xs]
theorem jX.xC(x:jX):x.kU=1+(1+((x.name.length+1)+(qa kE.kU x.kC+(qa jX.kU x.lr+1)))):=by
 cases x;simp only[jX.kU,jX.ali];rfl
theorem jX.azo(x:jX):x.wf↔(wfI .i64 x.kind/\wfI .i64 x.index/\True/\(∀y∈x.kC,y.wf)/\(∀y∈x.lr,y.wf)/\True):=by
 cases x;simp only[jX.wf,jX.awL];exact Iff.rfl
mutual
def jX.read{H:Type}{en:aTP×aTO->H}{aS1:aTQ}{sp:Nat->Bool}{held:Bool}:∀(n:Nat)(cs:List aTO)(x:DataW H×List MemPlace),hU en gZ aS1 0 sp held n 49 cs=some x->aeB gZ aS1 jX.cells jX.kU jX.wf cs x.1
 |n,cs,x,h=>by
  obtain⟨xs,m,hm,rfl,hl,hlen,hf⟩:=hJ (fs:=Tryz.prog.fieldsOf 49) (by kernel_rfl) h;have hsz:Tryz.prog.cellsOf 49=5:=by kernel_rfl
  have hfs:(Tryz.prog.fieldsOf 49).size=5:=by kernel_rfl
  rw[hsz]at hl;rw[hfs]at hlen;have h0:=mX (i:=0) (ty:=3) (off:=0) (sz:=1) (by kernel_rfl) (by kernel_rfl) hf (by omega);have h1:=mX (i:=1) (ty:=3) (off:=1) (sz:=1) (by kernel_rfl) (by kernel_rfl) hf (by omega);have h2:=mX (i:=2) (ty:=9) (off:=2) (sz:=1) (by kernel_rfl) (by kernel_rfl) hf (by omega);have h3:=mX (i:=3) (ty:=46) (off:=3) (sz:=1) (by kernel_rfl) (by kernel_rfl) hf (by omega);have h4:=mX (i:=4) (ty:=47) (off:=4) (sz:=1) (by kernel_rfl) (by kernel_rfl) hf (by omega)
  match xs,hlen,h0,h1,h2,h3,h4 with
  |[y0,y1,y2,y3,y4],_,h0,h1,h2,h3,h4=>
   obtain⟨x0,r0,o0,b0,w0⟩:=LD (t:=3) (k:=.i64) (by kernel_rfl) h0;obtain⟨x1,r1,o1,b1,w1⟩:=LD (t:=3) (k:=.i64) (by kernel_rfl) h1;obtain⟨x2,r2,o2,b2,w2⟩:=Pc (t:=9) (by kernel_rfl) h2;obtain⟨x3,r3,o3,b3,w3⟩:=xJ (t:=46) (e:=98) (sz:=2) (enc:=kE.cells) (bk:=kE.kU) (wf:=kE.wf) (by kernel_rfl) (by kernel_rfl) (by decide) kE.length (fun k hk cs x h=>kE.read k cs x h) h3;obtain⟨x4,r4,o4,b4,w4⟩:=xJ (t:=47) (e:=49) (sz:=5) (enc:=jX.cells) (bk:=jX.kU) (wf:=jX.wf) (by kernel_rfl) (by kernel_rfl) (by decide) jX.length (fun k hk cs x h=>jX.read k cs x h) h4;have b0:1<=Rows.uptoBulk y0.1:=b0;have b1:1<=Rows.uptoBulk y1.1:=b1;have b2:(x2.length+1)<=Rows.uptoBulk y2.1:=b2;have b3:qa kE.kU x3<=Rows.uptoBulk y3.1:=b3;have b4:qa jX.kU x4<=Rows.uptoBulk y4.1:=b4;refine⟨.mk x0 x1 x2 x3 x4,?_,?_,?_,?_⟩
   ·have hr:=(me r0 (me r1 (me r2 (me r3 (me r4 (Jf hl))))));rw[gY]at hr;rw[jX.kP];simpa only[hO,ia,ib,ic,jX.kind,jX.index,jX.name,jX.kC,jX.lr] using hr
   ·have ho:=(mg o0 (mg o1 (mg o2 (mg o3 (mg o4 (Jg hl))))));rw[gY]at ho;exact ho
   ·rw[jX.xC];simp only[ig,ii,Rows.uptoBulk,Rows.uptoBulkAll];simp only[jX.kind,jX.index,jX.name,jX.kC,jX.lr];omega
   ·rw[jX.azo];exact⟨w0,w1,w2,w3,w4,trivial⟩
 termination_by n=>n
 decreasing_by all_goals omega
end
def kZ.kU(x:kZ):Nat:=1+(x.type.kU+(qa jX.kU x.yG+1))
def kZ.wf(x:kZ):Prop:=wfI .i64 x.params/\x.type.wf/\(∀y∈x.yG,y.wf)/\True
def kZ.read:∀(n:Nat)(cs:List aTO)(x:DataW H×List MemPlace),hU en gZ aS1 0 sp held n 128 cs=some x->aeB gZ aS1 kZ.cells kZ.kU kZ.wf cs x.1
 |n,cs,x,h=>by
  obtain⟨xs,m,hm,rfl,hl,hlen,hf⟩:=hJ (fs:=Tryz.prog.fieldsOf 128) (by kernel_rfl) h;have hsz:Tryz.prog.cellsOf 128=7:=by kernel_rfl
  have hfs:(Tryz.prog.fieldsOf 128).size=3:=by kernel_rfl
  rw[hsz]at hl;rw[hfs]at hlen;have h0:=mX (i:=0) (ty:=3) (off:=0) (sz:=1) (by kernel_rfl) (by kernel_rfl) hf (by omega);have h1:=mX (i:=1) (ty:=49) (off:=1) (sz:=5) (by kernel_rfl) (by kernel_rfl) hf (by omega);have h2:=mX (i:=2) (ty:=47) (off:=6) (sz:=1) (by kernel_rfl) (by kernel_rfl) hf (by omega)
  match xs,hlen,h0,h1,h2 with
  |[y0,y1,y2],_,h0,h1,h2=>
   obtain⟨x0,r0,o0,b0,w0⟩:=LD (t:=3) (k:=.i64) (by kernel_rfl) h0;obtain⟨x1,r1,o1,b1,w1⟩:=jX.read m _ _ h1;obtain⟨x2,r2,o2,b2,w2⟩:=xJ (t:=47) (e:=49) (sz:=5) (enc:=jX.cells) (bk:=jX.kU) (wf:=jX.wf) (by kernel_rfl) (by kernel_rfl) (by decide) jX.length (fun k hk cs x h=>jX.read k cs x h) h2;have b0:1<=Rows.uptoBulk y0.1:=b0;have b1:x1.kU<=Rows.uptoBulk y1.1:=b1;have b2:qa jX.kU x2<=Rows.uptoBulk y2.1:=b2;refine⟨⟨x0,x1,x2⟩,?_,?_,?_,?_⟩
   ·have hr:=(me r0 (me r1 (me r2 (Jf hl))));rw[gY]at hr;rw[kZ.kP];simpa only[hO,ia,ib,ic] using hr
   ·have ho:=(mg o0 (mg o1 (mg o2 (Jg hl))));rw[gY]at ho;exact ho
   ·simp only[ig,ii,Rows.uptoBulk,Rows.uptoBulkAll,kZ.kU];omega
   ·exact⟨w0,w1,w2,trivial⟩
def mL.kU(x:mL):Nat:=(x.name.length+1)+(x.type.kU+1)
def mL.wf(x:mL):Prop:=True/\x.type.wf/\True
def mL.read:∀(n:Nat)(cs:List aTO)(x:DataW H×List MemPlace),hU en gZ aS1 0 sp held n 199 cs=some x->aeB gZ aS1 mL.cells mL.kU mL.wf cs x.1
 |n,cs,x,h=>by
  obtain⟨xs,m,hm,rfl,hl,hlen,hf⟩:=hJ (fs:=Tryz.prog.fieldsOf 199) (by kernel_rfl) h;have hsz:Tryz.prog.cellsOf 199=6:=by kernel_rfl
  have hfs:(Tryz.prog.fieldsOf 199).size=2:=by kernel_rfl
  rw[hsz]at hl;rw[hfs]at hlen;have h0:=mX (i:=0) (ty:=9) (off:=0) (sz:=1) (by kernel_rfl) (by kernel_rfl) hf (by omega);have h1:=mX (i:=1) (ty:=49) (off:=1) (sz:=5) (by kernel_rfl) (by kernel_rfl) hf (by omega)
  match xs,hlen,h0,h1 with
  |[y0,y1],_,h0,h1=>
   obtain⟨x0,r0,o0,b0,w0⟩:=Pc (t:=9) (by kernel_rfl) h0;obtain⟨x1,r1,o1,b1,w1⟩:=jX.read m _ _ h1;have b0:(x0.length+1)<=Rows.uptoBulk y0.1:=b0;have b1:x1.kU<=Rows.uptoBulk y1.1:=b1;refine⟨⟨x0,x1⟩,?_,?_,?_,?_⟩
   ·have hr:=(me r0 (me r1 (Jf hl)));rw[gY]at hr;rw[mL.kP];simpa only[hO,ia,ib,ic] using hr
   ·have ho:=(mg o0 (mg o1 (Jg hl)));rw[gY]at ho;exact ho
   ·simp only[ig,ii,Rows.uptoBulk,Rows.uptoBulkAll,mL.kU];omega
   ·exact⟨w0,w1,trivial⟩
mutual
def lh.kU:lh->Nat
 |.mk kind body var ol=>1+(body.kU+(1+(kw.alh ol+1)))
def kw.kU:kw->Nat
 |.mk YL zi tj=>(YL.length+1)+(1+(tj.kU+1))
def kw.alh:List kw->Nat
 |[]=>1
 |x::xs=>x.kU+kw.alh xs
end
mutual
def lh.wf:lh->Prop
 |.mk kind body var ol=>wfI .i64 kind/\body.wf/\wfI .i64 var/\kw.wfL ol/\True
def kw.wf:kw->Prop
 |.mk YL zi tj=>True/\True/\tj.wf/\True
def kw.wfL:List kw->Prop
 |[]=>True
 |x::xs=>x.wf/\kw.wfL xs
end
def kw.ali:∀xs,kw.alh xs=qa kw.kU xs
 |[]=>by simp only[kw.alh,qa]
 |x::xs=>by simp only[kw.alh,qa,kw.ali xs]
def kw.awL:∀xs,kw.wfL xs↔ ∀y∈xs,kw.wf y
 |[]=>by simp [kw.wfL]
 |x::xs=>by simp [kw.wfL,kw.awL xs]
theorem lh.xC(x:lh):x.kU=1+(x.body.kU+(1+(qa kw.kU x.ol+1))):=by
 cases x;simp only[lh.kU,kw.ali];rfl
theorem lh.azo(x:lh):x.wf↔(wfI .i64 x.kind/\x.body.wf/\wfI .i64 x.var/\(∀y∈x.ol,y.wf)/\True):=by
 cases x;simp only[lh.wf,kw.awL];exact Iff.rfl
theorem kw.xC(x:kw):x.kU=(x.YL.length+1)+(1+(x.tj.kU+1)):=by
 cases x;simp only[kw.kU];rfl
theorem kw.azo(x:kw):x.wf↔(True/\True/\x.tj.wf/\True):=by
 cases x;simp only[kw.wf];exact Iff.rfl
mutual
def lh.read{H:Type}{en:aTP×aTO->H}{aS1:aTQ}{sp:Nat->Bool}{held:Bool}:∀(n:Nat)(cs:List aTO)(x:DataW H×List MemPlace),hU en gZ aS1 0 sp held n 202 cs=some x->aeB gZ aS1 lh.cells lh.kU lh.wf cs x.1
 |n,cs,x,h=>by
  obtain⟨xs,m,hm,rfl,hl,hlen,hf⟩:=hJ (fs:=Tryz.prog.fieldsOf 202) (by kernel_rfl) h;have hsz:Tryz.prog.cellsOf 202=8:=by kernel_rfl
  have hfs:(Tryz.prog.fieldsOf 202).size=4:=by kernel_rfl
  rw[hsz]at hl;rw[hfs]at hlen;have h0:=mX (i:=0) (ty:=3) (off:=0) (sz:=1) (by kernel_rfl) (by kernel_rfl) hf (by omega);have h1:=mX (i:=1) (ty:=49) (off:=1) (sz:=5) (by kernel_rfl) (by kernel_rfl) hf (by omega);have h2:=mX (i:=2) (ty:=3) (off:=6) (sz:=1) (by kernel_rfl) (by kernel_rfl) hf (by omega);have h3:=mX (i:=3) (ty:=200) (off:=7) (sz:=1) (by kernel_rfl) (by kernel_rfl) hf (by omega)
  match xs,hlen,h0,h1,h2,h3 with
  |[y0,y1,y2,y3],_,h0,h1,h2,h3=>
   obtain⟨x0,r0,o0,b0,w0⟩:=LD (t:=3) (k:=.i64) (by kernel_rfl) h0;obtain⟨x1,r1,o1,b1,w1⟩:=jX.read m _ _ h1;obtain⟨x2,r2,o2,b2,w2⟩:=LD (t:=3) (k:=.i64) (by kernel_rfl) h2;obtain⟨x3,r3,o3,b3,w3⟩:=xJ (t:=200) (e:=345) (sz:=10) (enc:=kw.cells) (bk:=kw.kU) (wf:=kw.wf) (by kernel_rfl) (by kernel_rfl) (by decide) kw.length (fun k hk cs x h=>kw.read k cs x h) h3;have b0:1<=Rows.uptoBulk y0.1:=b0;have b1:x1.kU<=Rows.uptoBulk y1.1:=b1;have b2:1<=Rows.uptoBulk y2.1:=b2;have b3:qa kw.kU x3<=Rows.uptoBulk y3.1:=b3;refine⟨.mk x0 x1 x2 x3,?_,?_,?_,?_⟩
   ·have hr:=(me r0 (me r1 (me r2 (me r3 (Jf hl)))));rw[gY]at hr;rw[lh.kP];simpa only[hO,ia,ib,ic,lh.kind,lh.body,lh.var,lh.ol] using hr
   ·have ho:=(mg o0 (mg o1 (mg o2 (mg o3 (Jg hl)))));rw[gY]at ho;exact ho
   ·rw[lh.xC];simp only[ig,ii,Rows.uptoBulk,Rows.uptoBulkAll];simp only[lh.kind,lh.body,lh.var,lh.ol];omega
   ·rw[lh.azo];exact⟨w0,w1,w2,w3,trivial⟩
 termination_by n=>n
 decreasing_by all_goals omega
def kw.read{H:Type}{en:aTP×aTO->H}{aS1:aTQ}{sp:Nat->Bool}{held:Bool}:∀(n:Nat)(cs:List aTO)(x:DataW H×List MemPlace),hU en gZ aS1 0 sp held n 345 cs=some x->aeB gZ aS1 kw.cells kw.kU kw.wf cs x.1
 |n,cs,x,h=>by
  obtain⟨xs,m,hm,rfl,hl,hlen,hf⟩:=hJ (fs:=Tryz.prog.fieldsOf 345) (by kernel_rfl) h;have hsz:Tryz.prog.cellsOf 345=10:=by kernel_rfl
  have hfs:(Tryz.prog.fieldsOf 345).size=3:=by kernel_rfl
  rw[hsz]at hl;rw[hfs]at hlen;have h0:=mX (i:=0) (ty:=9) (off:=0) (sz:=1) (by kernel_rfl) (by kernel_rfl) hf (by omega);have h1:=mX (i:=1) (ty:=4) (off:=1) (sz:=1) (by kernel_rfl) (by kernel_rfl) hf (by omega);have h2:=mX (i:=2) (ty:=202) (off:=2) (sz:=8) (by kernel_rfl) (by kernel_rfl) hf (by omega)
  match xs,hlen,h0,h1,h2 with
  |[y0,y1,y2],_,h0,h1,h2=>
   obtain⟨x0,r0,o0,b0,w0⟩:=Pc (t:=9) (by kernel_rfl) h0;obtain⟨x1,r1,o1,b1,w1⟩:=aNi (t:=4) (by kernel_rfl) h1;obtain⟨x2,r2,o2,b2,w2⟩:=lh.read m _ _ h2;have b0:(x0.length+1)<=Rows.uptoBulk y0.1:=b0;have b1:1<=Rows.uptoBulk y1.1:=b1;have b2:x2.kU<=Rows.uptoBulk y2.1:=b2;refine⟨.mk x0 x1 x2,?_,?_,?_,?_⟩
   ·have hr:=(me r0 (me r1 (me r2 (Jf hl))));rw[gY]at hr;rw[kw.kP];simpa only[hO,ia,ib,ic,kw.YL,kw.zi,kw.tj] using hr
   ·have ho:=(mg o0 (mg o1 (mg o2 (Jg hl))));rw[gY]at ho;exact ho
   ·rw[kw.xC];simp only[ig,ii,Rows.uptoBulk,Rows.uptoBulkAll];simp only[kw.YL,kw.zi,kw.tj];omega
   ·rw[kw.azo];exact⟨w0,w1,w2,trivial⟩
 termination_by n=>n
 decreasing_by all_goals omega
end
def qH.kU(x:qH):Nat:=(x.name.length+1)+(x.type.kU+(1+(x.tj.kU+1)))
def qH.wf(x:qH):Prop:=True/\x.type.wf/\wfI .i64 x.avO/\x.tj.wf/\True
def qH.read:∀(n:Nat)(cs:List aTO)(x:DataW H×List MemPlace),hU en gZ aS1 0 sp held n 204 cs=some x->aeB gZ aS1 qH.cells qH.kU qH.wf cs x.1
 |n,cs,x,h=>by
  obtain⟨xs,m,hm,rfl,hl,hlen,hf⟩:=hJ (fs:=Tryz.prog.fieldsOf 204) (by kernel_rfl) h;have hsz:Tryz.prog.cellsOf 204=15:=by kernel_rfl
  have hfs:(Tryz.prog.fieldsOf 204).size=4:=by kernel_rfl
  rw[hsz]at hl;rw[hfs]at hlen;have h0:=mX (i:=0) (ty:=9) (off:=0) (sz:=1) (by kernel_rfl) (by kernel_rfl) hf (by omega);have h1:=mX (i:=1) (ty:=49) (off:=1) (sz:=5) (by kernel_rfl) (by kernel_rfl) hf (by omega);have h2:=mX (i:=2) (ty:=3) (off:=6) (sz:=1) (by kernel_rfl) (by kernel_rfl) hf (by omega);have h3:=mX (i:=3) (ty:=202) (off:=7) (sz:=8) (by kernel_rfl) (by kernel_rfl) hf (by omega)
  match xs,hlen,h0,h1,h2,h3 with
  |[y0,y1,y2,y3],_,h0,h1,h2,h3=>
   obtain⟨x0,r0,o0,b0,w0⟩:=Pc (t:=9) (by kernel_rfl) h0;obtain⟨x1,r1,o1,b1,w1⟩:=jX.read m _ _ h1;obtain⟨x2,r2,o2,b2,w2⟩:=LD (t:=3) (k:=.i64) (by kernel_rfl) h2;obtain⟨x3,r3,o3,b3,w3⟩:=lh.read m _ _ h3;have b0:(x0.length+1)<=Rows.uptoBulk y0.1:=b0;have b1:x1.kU<=Rows.uptoBulk y1.1:=b1;have b2:1<=Rows.uptoBulk y2.1:=b2;have b3:x3.kU<=Rows.uptoBulk y3.1:=b3;refine⟨⟨x0,x1,x2,x3⟩,?_,?_,?_,?_⟩
   ·have hr:=(me r0 (me r1 (me r2 (me r3 (Jf hl)))));rw[gY]at hr;rw[qH.kP];simpa only[hO,ia,ib,ic] using hr
   ·have ho:=(mg o0 (mg o1 (mg o2 (mg o3 (Jg hl)))));rw[gY]at ho;exact ho
   ·simp only[ig,ii,Rows.uptoBulk,Rows.uptoBulkAll,qH.kU];omega
   ·exact⟨w0,w1,w2,w3,trivial⟩
def ky.kU(x:ky):Nat:=1+((x.name.length+1)+(1+(x.type.kU+(x.value.kU+(1+(qa mL.kU x.qZ+(x.pd.kU+(qa qH.kU x.Al+1))))))))
def ky.wf(x:ky):Prop:=wfI .i64 x.kind/\True/\wfI .i64 x.params/\x.type.wf/\x.value.wf/\wfI .i64 x.Hr/\(∀y∈x.qZ,y.wf)/\x.pd.wf/\(∀y∈x.Al,y.wf)/\True
def ky.read:∀(n:Nat)(cs:List aTO)(x:DataW H×List MemPlace),hU en gZ aS1 0 sp held n 131 cs=some x->aeB gZ aS1 ky.cells ky.kU ky.wf cs x.1
 |n,cs,x,h=>by
  obtain⟨xs,m,hm,rfl,hl,hlen,hf⟩:=hJ (fs:=Tryz.prog.fieldsOf 131) (by kernel_rfl) h;have hsz:Tryz.prog.cellsOf 131=23:=by kernel_rfl
  have hfs:(Tryz.prog.fieldsOf 131).size=9:=by kernel_rfl
  rw[hsz]at hl;rw[hfs]at hlen;have h0:=mX (i:=0) (ty:=3) (off:=0) (sz:=1) (by kernel_rfl) (by kernel_rfl) hf (by omega);have h1:=mX (i:=1) (ty:=9) (off:=1) (sz:=1) (by kernel_rfl) (by kernel_rfl) hf (by omega);have h2:=mX (i:=2) (ty:=3) (off:=2) (sz:=1) (by kernel_rfl) (by kernel_rfl) hf (by omega);have h3:=mX (i:=3) (ty:=49) (off:=3) (sz:=5) (by kernel_rfl) (by kernel_rfl) hf (by omega);have h4:=mX (i:=4) (ty:=49) (off:=8) (sz:=5) (by kernel_rfl) (by kernel_rfl) hf (by omega);have h5:=mX (i:=5) (ty:=3) (off:=13) (sz:=1) (by kernel_rfl) (by kernel_rfl) hf (by omega);have h6:=mX (i:=6) (ty:=126) (off:=14) (sz:=1) (by kernel_rfl) (by kernel_rfl) hf (by omega);have h7:=mX (i:=7) (ty:=128) (off:=15) (sz:=7) (by kernel_rfl) (by kernel_rfl) hf (by omega);have h8:=mX (i:=8) (ty:=129) (off:=22) (sz:=1) (by kernel_rfl) (by kernel_rfl) hf (by omega)
  match xs,hlen,h0,h1,h2,h3,h4,h5,h6,h7,h8 with
  |[y0,y1,y2,y3,y4,y5,y6,y7,y8],_,h0,h1,h2,h3,h4,h5,h6,h7,h8=>
   obtain⟨x0,r0,o0,b0,w0⟩:=LD (t:=3) (k:=.i64) (by kernel_rfl) h0;obtain⟨x1,r1,o1,b1,w1⟩:=Pc (t:=9) (by kernel_rfl) h1;obtain⟨x2,r2,o2,b2,w2⟩:=LD (t:=3) (k:=.i64) (by kernel_rfl) h2;obtain⟨x3,r3,o3,b3,w3⟩:=jX.read m _ _ h3;obtain⟨x4,r4,o4,b4,w4⟩:=jX.read m _ _ h4;obtain⟨x5,r5,o5,b5,w5⟩:=LD (t:=3) (k:=.i64) (by kernel_rfl) h5;obtain⟨x6,r6,o6,b6,w6⟩:=xJ (t:=126) (e:=199) (sz:=6) (enc:=mL.cells) (bk:=mL.kU) (wf:=mL.wf) (by kernel_rfl) (by kernel_rfl) (by decide) mL.length (fun k hk cs x h=>mL.read k cs x h) h6;obtain⟨x7,r7,o7,b7,w7⟩:=kZ.read m _ _ h7;obtain⟨x8,r8,o8,b8,w8⟩:=xJ (t:=129) (e:=204) (sz:=15) (enc:=qH.cells) (bk:=qH.kU) (wf:=qH.wf) (by kernel_rfl) (by kernel_rfl) (by decide) qH.length (fun k hk cs x h=>qH.read k cs x h) h8;have b0:1<=Rows.uptoBulk y0.1:=b0;have b1:(x1.length+1)<=Rows.uptoBulk y1.1:=b1;have b2:1<=Rows.uptoBulk y2.1:=b2;have b3:x3.kU<=Rows.uptoBulk y3.1:=b3;have b4:x4.kU<=Rows.uptoBulk y4.1:=b4;have b5:1<=Rows.uptoBulk y5.1:=b5;have b6:qa mL.kU x6<=Rows.uptoBulk y6.1:=b6;have b7:x7.kU<=Rows.uptoBulk y7.1:=b7;have b8:qa qH.kU x8<=Rows.uptoBulk y8.1:=b8;refine⟨⟨x0,x1,x2,x3,x4,x5,x6,x7,x8⟩,?_,?_,?_,?_⟩
   ·have hr:=(me r0 (me r1 (me r2 (me r3 (me r4 (me r5 (me r6 (me r7 (me r8 (Jf hl))))))))));rw[gY]at hr;rw[ky.kP];simpa only[hO,ia,ib,ic] using hr
   ·have ho:=(mg o0 (mg o1 (mg o2 (mg o3 (mg o4 (mg o5 (mg o6 (mg o7 (mg o8 (Jg hl))))))))));rw[gY]at ho;exact ho
   ·simp only[ig,ii,Rows.uptoBulk,Rows.uptoBulkAll,ky.kU];omega
   ·exact⟨w0,w1,w2,w3,w4,w5,w6,w7,w8,trivial⟩
def kF.kU(x:kF):Nat:=(x.name.length+1)+(qa (fun _=>1) x.avP+1)
def kF.wf(x:kF):Prop:=True/\(∀y∈x.avP,wfI .i64 y)/\True
def kF.read:∀(n:Nat)(cs:List aTO)(x:DataW H×List MemPlace),hU en gZ aS1 0 sp held n 432 cs=some x->aeB gZ aS1 kF.cells kF.kU kF.wf cs x.1
 |n,cs,x,h=>by
  obtain⟨xs,m,hm,rfl,hl,hlen,hf⟩:=hJ (fs:=Tryz.prog.fieldsOf 432) (by kernel_rfl) h;have hsz:Tryz.prog.cellsOf 432=2:=by kernel_rfl
  have hfs:(Tryz.prog.fieldsOf 432).size=2:=by kernel_rfl
  rw[hsz]at hl;rw[hfs]at hlen;have h0:=mX (i:=0) (ty:=9) (off:=0) (sz:=1) (by kernel_rfl) (by kernel_rfl) hf (by omega);have h1:=mX (i:=1) (ty:=247) (off:=1) (sz:=1) (by kernel_rfl) (by kernel_rfl) hf (by omega)
  match xs,hlen,h0,h1 with
  |[y0,y1],_,h0,h1=>
   obtain⟨x0,r0,o0,b0,w0⟩:=Pc (t:=9) (by kernel_rfl) h0;obtain⟨x1,r1,o1,b1,w1⟩:=xJ (t:=247) (e:=3) (sz:=1) (enc:=LP) (bk:=(fun _=>1)) (wf:=(wfI .i64)) (by kernel_rfl) (by kernel_rfl) (by decide) (fun _=>rfl) (fun k hk cs x h=>LD (t:=3) (k:=.i64) (by kernel_rfl) h) h1;have b0:(x0.length+1)<=Rows.uptoBulk y0.1:=b0;have b1:qa (fun _=>1) x1<=Rows.uptoBulk y1.1:=b1;refine⟨⟨x0,x1⟩,?_,?_,?_,?_⟩
   ·have hr:=(me r0 (me r1 (Jf hl)));rw[gY]at hr;rw[kF.kP];simpa only[hO,ia,ib,ic] using hr
   ·have ho:=(mg o0 (mg o1 (Jg hl)));rw[gY]at ho;exact ho
   ·simp only[ig,ii,Rows.uptoBulk,Rows.uptoBulkAll,kF.kU];omega
   ·exact⟨w0,w1,trivial⟩
def kI.kU(x:kI):Nat:=qa ky.kU x.env+(qa kF.kU x.uh+(qa (fun m:kp=>m.length+1) x.zE+(qa (fun m:kp=>m.length+1) x.instances+(qa jS.kU x.pZ+(qa (fun m:kp=>m.length+1) x.qz+(qa (fun m:kp=>m.length+1) x.opens+1))))))
def kI.wf(x:kI):Prop:=(∀y∈x.env,y.wf)/\(∀y∈x.uh,y.wf)/\(∀y∈x.zE,True)/\(∀y∈x.instances,True)/\(∀y∈x.pZ,y.wf)/\(∀y∈x.qz,True)/\(∀y∈x.opens,True)/\True
def kI.read:∀(n:Nat)(cs:List aTO)(x:DataW H×List MemPlace),hU en gZ aS1 0 sp held n 45 cs=some x->aeB gZ aS1 kI.cells kI.kU kI.wf cs x.1
 |n,cs,x,h=>by
  obtain⟨xs,m,hm,rfl,hl,hlen,hf⟩:=hJ (fs:=Tryz.prog.fieldsOf 45) (by kernel_rfl) h;have hsz:Tryz.prog.cellsOf 45=7:=by kernel_rfl
  have hfs:(Tryz.prog.fieldsOf 45).size=7:=by kernel_rfl
  rw[hsz]at hl;rw[hfs]at hlen;have h0:=mX (i:=0) (ty:=42) (off:=0) (sz:=1) (by kernel_rfl) (by kernel_rfl) hf (by omega);have h1:=mX (i:=1) (ty:=43) (off:=1) (sz:=1) (by kernel_rfl) (by kernel_rfl) hf (by omega);have h2:=mX (i:=2) (ty:=23) (off:=2) (sz:=1) (by kernel_rfl) (by kernel_rfl) hf (by omega);have h3:=mX (i:=3) (ty:=23) (off:=3) (sz:=1) (by kernel_rfl) (by kernel_rfl) hf (by omega);have h4:=mX (i:=4) (ty:=22) (off:=4) (sz:=1) (by kernel_rfl) (by kernel_rfl) hf (by omega);have h5:=mX (i:=5) (ty:=23) (off:=5) (sz:=1) (by kernel_rfl) (by kernel_rfl) hf (by omega);have h6:=mX (i:=6) (ty:=23) (off:=6) (sz:=1) (by kernel_rfl) (by kernel_rfl) hf (by omega)
  match xs,hlen,h0,h1,h2,h3,h4,h5,h6 with
  |[y0,y1,y2,y3,y4,y5,y6],_,h0,h1,h2,h3,h4,h5,h6=>
   obtain⟨x0,r0,o0,b0,w0⟩:=xJ (t:=42) (e:=131) (sz:=23) (enc:=ky.cells) (bk:=ky.kU) (wf:=ky.wf) (by kernel_rfl) (by kernel_rfl) (by decide) ky.length (fun k hk cs x h=>ky.read k cs x h) h0;obtain⟨x1,r1,o1,b1,w1⟩:=xJ (t:=43) (e:=432) (sz:=2) (enc:=kF.cells) (bk:=kF.kU) (wf:=kF.wf) (by kernel_rfl) (by kernel_rfl) (by decide) kF.length (fun k hk cs x h=>kF.read k cs x h) h1;obtain⟨x2,r2,o2,b2,w2⟩:=xJ (t:=23) (e:=9) (sz:=1) (enc:=kS) (bk:=(fun m:kp=>m.length+1)) (wf:=(fun _=>True)) (by kernel_rfl) (by kernel_rfl) (by decide) (fun _=>rfl) (fun k hk cs x h=>Pc (t:=9) (by kernel_rfl) h) h2;obtain⟨x3,r3,o3,b3,w3⟩:=xJ (t:=23) (e:=9) (sz:=1) (enc:=kS) (bk:=(fun m:kp=>m.length+1)) (wf:=(fun _=>True)) (by kernel_rfl) (by kernel_rfl) (by decide) (fun _=>rfl) (fun k hk cs x h=>Pc (t:=9) (by kernel_rfl) h) h3;obtain⟨x4,r4,o4,b4,w4⟩:=xJ (t:=22) (e:=25) (sz:=4) (enc:=jS.cells) (bk:=jS.kU) (wf:=jS.wf) (by kernel_rfl) (by kernel_rfl) (by decide) jS.length (fun k hk cs x h=>jS.read k cs x h) h4;obtain⟨x5,r5,o5,b5,w5⟩:=xJ (t:=23) (e:=9) (sz:=1) (enc:=kS) (bk:=(fun m:kp=>m.length+1)) (wf:=(fun _=>True)) (by kernel_rfl) (by kernel_rfl) (by decide) (fun _=>rfl) (fun k hk cs x h=>Pc (t:=9) (by kernel_rfl) h) h5;obtain⟨x6,r6,o6,b6,w6⟩:=xJ (t:=23) (e:=9) (sz:=1) (enc:=kS) (bk:=(fun m:kp=>m.length+1)) (wf:=(fun _=>True)) (by kernel_rfl) (by kernel_rfl) (by decide) (fun _=>rfl) (fun k hk cs x h=>Pc (t:=9) (by kernel_rfl) h) h6;have b0:qa ky.kU x0<=Rows.uptoBulk y0.1:=b0;have b1:qa kF.kU x1<=Rows.uptoBulk y1.1:=b1;have b2:qa (fun m:kp=>m.length+1) x2<=Rows.uptoBulk y2.1:=b2;have b3:qa (fun m:kp=>m.length+1) x3<=Rows.uptoBulk y3.1:=b3;have b4:qa jS.kU x4<=Rows.uptoBulk y4.1:=b4;have b5:qa (fun m:kp=>m.length+1) x5<=Rows.uptoBulk y5.1:=b5;have b6:qa (fun m:kp=>m.length+1) x6<=Rows.uptoBulk y6.1:=b6;refine⟨⟨x0,x1,x2,x3,x4,x5,x6⟩,?_,?_,?_,?_⟩
   ·have hr:=(me r0 (me r1 (me r2 (me r3 (me r4 (me r5 (me r6 (Jf hl))))))));rw[gY]at hr;rw[kI.kP];simpa only[hO,ia,ib,ic] using hr
   ·have ho:=(mg o0 (mg o1 (mg o2 (mg o3 (mg o4 (mg o5 (mg o6 (Jg hl))))))));rw[gY]at ho;exact ho
   ·simp only[ig,ii,Rows.uptoBulk,Rows.uptoBulkAll,kI.kU];omega
   ·exact⟨w0,w1,w2,w3,w4,w5,w6,trivial⟩
def kA.kU(x:kA):Nat:=x.st.kU+(qa (fun m:kp=>m.length+1) x.kC+(qa (fun m:kp=>m.length+1) x.mF+(x.term.kU+1)))
def kA.wf(x:kA):Prop:=x.st.wf/\(∀y∈x.kC,True)/\(∀y∈x.mF,True)/\x.term.wf/\True
def kA.read:∀(n:Nat)(cs:List aTO)(x:DataW H×List MemPlace),hU en gZ aS1 0 sp held n 51 cs=some x->aeB gZ aS1 kA.cells kA.kU kA.wf cs x.1
 |n,cs,x,h=>by
  obtain⟨xs,m,hm,rfl,hl,hlen,hf⟩:=hJ (fs:=Tryz.prog.fieldsOf 51) (by kernel_rfl) h;have hsz:Tryz.prog.cellsOf 51=14:=by kernel_rfl
  have hfs:(Tryz.prog.fieldsOf 51).size=4:=by kernel_rfl
  rw[hsz]at hl;rw[hfs]at hlen;have h0:=mX (i:=0) (ty:=45) (off:=0) (sz:=7) (by kernel_rfl) (by kernel_rfl) hf (by omega);have h1:=mX (i:=1) (ty:=23) (off:=7) (sz:=1) (by kernel_rfl) (by kernel_rfl) hf (by omega);have h2:=mX (i:=2) (ty:=23) (off:=8) (sz:=1) (by kernel_rfl) (by kernel_rfl) hf (by omega);have h3:=mX (i:=3) (ty:=49) (off:=9) (sz:=5) (by kernel_rfl) (by kernel_rfl) hf (by omega)
  match xs,hlen,h0,h1,h2,h3 with
  |[y0,y1,y2,y3],_,h0,h1,h2,h3=>
   obtain⟨x0,r0,o0,b0,w0⟩:=kI.read m _ _ h0;obtain⟨x1,r1,o1,b1,w1⟩:=xJ (t:=23) (e:=9) (sz:=1) (enc:=kS) (bk:=(fun m:kp=>m.length+1)) (wf:=(fun _=>True)) (by kernel_rfl) (by kernel_rfl) (by decide) (fun _=>rfl) (fun k hk cs x h=>Pc (t:=9) (by kernel_rfl) h) h1;obtain⟨x2,r2,o2,b2,w2⟩:=xJ (t:=23) (e:=9) (sz:=1) (enc:=kS) (bk:=(fun m:kp=>m.length+1)) (wf:=(fun _=>True)) (by kernel_rfl) (by kernel_rfl) (by decide) (fun _=>rfl) (fun k hk cs x h=>Pc (t:=9) (by kernel_rfl) h) h2;obtain⟨x3,r3,o3,b3,w3⟩:=jX.read m _ _ h3;have b0:x0.kU<=Rows.uptoBulk y0.1:=b0;have b1:qa (fun m:kp=>m.length+1) x1<=Rows.uptoBulk y1.1:=b1;have b2:qa (fun m:kp=>m.length+1) x2<=Rows.uptoBulk y2.1:=b2;have b3:x3.kU<=Rows.uptoBulk y3.1:=b3;refine⟨⟨x0,x1,x2,x3⟩,?_,?_,?_,?_⟩
   ·have hr:=(me r0 (me r1 (me r2 (me r3 (Jf hl)))));rw[gY]at hr;rw[kA.kP];simpa only[hO,ia,ib,ic] using hr
   ·have ho:=(mg o0 (mg o1 (mg o2 (mg o3 (Jg hl)))));rw[gY]at ho;exact ho
   ·simp only[ig,ii,Rows.uptoBulk,Rows.uptoBulkAll,kA.kU];omega
   ·exact⟨w0,w1,w2,w3,trivial⟩
open Go.Proofs Go.Proofs.YtpdbjkgnmjnebaaGreatDoor Go.RowKit
section
variable {enc:aTP×aTO->H}
def ayl{a:Assume}{C:Checked}{os:Os}{fn:Func}{s:OpenSpec}{k:(H:Type)->List (DataW H)->Bool}(hk:s.cond=some k){F:Stop.Interp}{conds:List PathCond}{apart fresh again:Bool}
 (own:ownKnob C.prog.godebug=none) (started:os.Started) (aO8:C.prog.inits.idxOf? f=none) (hfn:C.prog.funcs[f]? =some fn)
 (witness:∃(w:aTQ)(tape:Tape)(i:Input),w.os=os/\(w.forCall tape i).Shaped C.prog/\i.vars=[]/\Input.okWide C.prog (w.forCall tape i) .any w.heap.size f i/\
   s.pre6 enc C.prog fn conds apart (w.forCall tape i).memory i.args/\a.holds C.prog (lone (Frame.enter C.prog f i.args .normal) [] (w.forCall tape i)))
 (contract:∀(aS1:aTQ)(base:Nat)(args:Array aTO)(ds gs:List (DataW H))(before:List MemPlace),
   (∀(j:Nat) t v,fn.params[j]? =some t->args[j]? =some v->ik C.prog aS1 .any base t v)->
   DataW.Whole enc C.prog fn.params.toList s.vars apart aS1 args.toList ds gs before->
   conds.all (PathCond.test C.prog ⟨fn.params.toList,ds,s.bare.plain.varTypes C.prog,gs⟩)=true->k H (ds++gs)=true->aS1.ShapedOpen C.prog->
   Calls C.prog f args aS1 fun e aS2=>∃v,e=.returned v/\(s.at F).post enc C.prog fn apart fresh handsOn again aS1 args v aS2):
 ReturnsInHanded a C os f .any (s.pre6 enc C.prog fn conds apart) ((s.at F).post enc C.prog fn apart fresh handsOn again):=by
 refine returnsInHanded_of_calls own started aO8 witness ?_;intro w tape i _ hsh _ aSI aSh aSi;obtain⟨_,_,_,fn',aSj,_,_,_,_,hval⟩:=aSI;have e:fn'=fn:=Option.some.inj (aSj.symm.trans hfn);subst e;obtain⟨ds,gs,before,hw,hc,hkk⟩:=(OpenSpec.pre_some hk conds apart _ _).1 aSh.1;have hw':=DataW.Whole.of_heap (w':=w.forCall tape i) (by rfl) hw;refine(contract (w.forCall tape i) w.heap.size i.args ds gs before hval hw' hc hkk hsh).mono fun e aS2 ⟨v,he,hp⟩=>?_
 subst he;exact ChangeSpec.post_blind hp
end
section
variable {P:Program} {aS2:aTQ}
def aHj(aS1 aS2:aTQ):Prop:=aS1.heap.size<=aS2.heap.size/\(∀b,b<aS1.heap.size->aS2.heap[b]? =aS1.heap[b]?)/\(∀x,x.block<aS1.heap.size->aS2.frozen? x=aS1.frozen? x)/\aS2.output=aS1.output/\aS2.os=aS1.os
def aNj(hk:aBB aS1 (fun _ _=>False)){args:List AV}{X:AV}{vs:Array aTO}(h:JE P f args (fun r=>r=X))(hr:kQ (aA6 P aS1) args vs.toList):
 Calls P f vs aS1 fun e aS2=>∃v U',e=.returned v/\pz ((aQ5 P aS1 hk).env U' [] aS2) X v/\aHj aS1 aS2:=by
 refine(h.2.2 (aQ5 P aS1 hk) (fun _=>undef) aS1 rfl rfl rfl (fun _ _ h=>h) vs hr).mono ?_;rintro e aS2 ⟨r,v,U',rfl,he,uu,h1,h2,h3,h4,h5⟩;exact⟨v,U',he,uu,h1,h2,h3,h4,h5⟩
def aHj.kept(h:aHj aS1 aS2)(may:MemPlace->Prop):aS1.keptBut aS2 may:=by
 obtain⟨h1,h2,h3,h4,h5⟩:=h;refine⟨h5,h4,fun i hi=>?_⟩;rw[h2 i hi];cases aS1.heap[i]? with
 |none=>rfl
 |some o=>
  cases o with
  |cells c t fr=>exact⟨rfl,rfl,rfl,fun _ _=>rfl⟩
  |map es clock=>exact .inr ⟨rfl,rfl⟩
  |_=>rfl
def aLd{enc:aTP×aTO->H}{f:Func}{s:ChangeSpec}{apart fresh again:Bool}{args:Array aTO}{ds gs:List (DataW H)}{before pa pv:List MemPlace}
 (hW:DataW.Whole enc P f.params.toList s.vars apart aS1 args.toList ds gs before)
 (aQ6:∀(b:Nat)(sp:Nat->Bool)(hd:Bool),DataW.TrodAll enc P aS2 b sp hd f.resultTypes.toList (v.resultList f.resultTypes.size) (s.fn H (ds++gs)).results [])
 (Zh:∀sp:Nat->Bool,(∀p∈before,sp p.block=true)->DataW.TrodAll enc P aS2 0 sp true f.params.toList args.toList (s.fn H (ds++gs)).args pa)
 (aNK:∀sp:Nat->Bool,(∀p∈before,sp p.block=true)->DataW.TrodVars enc P aS2 sp s.vars (s.fn H (ds++gs)).vars pv)
 (hps:before=pa++pv) (hk:aS1.keptBut aS2 (· ∈before)) (hfz:∀a,a.block<aS1.heap.size->aS2.frozen? a=aS1.frozen? a)
 (aSI:∀(j:Nat)(t:aTP)(r:aTO),f.resultTypes[j]? =some t->(v.resultList f.resultTypes.size)[j]? =some r->ik P aS2 .any 0 t r):
 s.post enc P f apart fresh handsOn again aS1 args v aS2:=by
 have hold:∀p∈before,(fun b=>decide (b<aS1.heap.size)) p.block=true:=fun p hp=>by simpa using hW.lt p hp
 have rQ:=hW.lt;refine⟨ds,gs,before,[],pa,pv,hW,aQ6 _ _ _,Zh _ hold,aNK _ hold,World.keptBut_mono (fun p hp=>⟨hp,?_⟩) hk,fun _=>?_⟩
 ·rw[hps,List.mem_append]at hp;exact Or.inr hp
 ·obtain⟨_,_,_,_,_,hz,hn⟩:=hW;refine⟨aSI,_,_,([]++pa)++pv,⟨[]++pa,pv,Go.ChangeShapes.trodAll_append (Zh _ (fun _ _=>rfl)) (aQ6 _ _ _),aNK _ (fun _ _=>rfl),rfl,?_,?_⟩,?_⟩
  ·intro b off hp;have hp':MemPlace.cell b off∈before:=by rw[hps];simpa using hp
   rw[hfz _ (rQ _ hp')];exact hz b off hp'
  ·intro ha;have:=hn ha;rw[hps]at this;simpa using this
  ·intro p hp _;rw[hps];simpa using hp
def aPn(hl:laidOutB P=true)(hr:P.readableRec t=true)(aM9:t<P.types.size){d:DataW H}
 (h:iw en P aS1 0 (fun _=>true) true t v d ps) (hL:aHj aS1 aS2) (hs:∀p∈ps,sp p.block=true):iw en P aS2 0 sp true t v d ps:=by
 refine WideElems.Trod_stays hl hr aM9 h (fun p hp=>?_) hs;obtain⟨n,hn⟩:=h;have hb:=DataW.trod_lt n t _ _ hn p hp;cases p with
 |cell b off=>
  have sC:b<aS1.heap.size:=hb;show aS2.cell? ⟨b,off,none⟩=aS1.cell? ⟨b,off,none⟩;simp only[World.cell?,hL.2.1 b sC]
 |map b=>exact hL.2.1 b hb
def aO9{e:W->List AV}{wf:W->Prop}{d:DataW H}(ht:P.underlying t=some (.struct fs))(hval:ik P aS1 .any base t v)
 (h:iw en P aS1 0 (fun _=>true) true t v d ps) (aKP:∀n cs x,hU en P aS1 0 (fun _=>true) true n t cs=some x->aeB P aS1 e bk wf cs x.1):
 ∃x,pz (aA6 P aS1) (.agg (e x)) v/\bk x<=Rows.uptoBulk d/\wf x:=by
 obtain⟨cs,rfl,_⟩:=WideShapes.okWide_struct ht hval;obtain⟨n,hn⟩:=h;obtain⟨x,hr,_,hb,hw⟩:=aKP n _ _ hn;exact⟨x,⟨cs,rfl,hr⟩,hb,hw⟩
def aQ7{e:W->AV}{wf:W->Prop}{d:DataW H}(hv:v.cells.toList=[v])
 (h:iw en P aS1 0 (fun _=>true) true t v d ps) (aKP:∀n cs x,hU en P aS1 0 (fun _=>true) true n t cs=some x->aeB P aS1 (fun x=>[e x]) bk wf cs x.1):
 ∃x,pz (aA6 P aS1) (e x) v/\bk x<=Rows.uptoBulk d/\wf x:=by
 obtain⟨n,hn⟩:=h;obtain⟨x,hr,_,hb,hw⟩:=aKP n _ _ hn;rw[hv]at hr;obtain⟨u,us,he,h1,_⟩:=hr;simp only[List.cons.injEq]at he;obtain⟨rfl,_⟩:=he;exact⟨x,h1,hb,hw⟩
def aQ8(ht:P.underlying t=some (.int k))(hval:ik P aS1 .any base t v):v.cells.toList=[v]:=by
 obtain⟨n,rfl⟩:=WideShapes.okWide_int ht hval;rfl
def aNL(ht:P.underlying t=some .string)(hval:ik P aS1 .any base t v):v.cells.toList=[v]:=by
 obtain⟨n,rfl⟩:=WideShapes.okWide_string ht hval;rfl
def aPo(ht:P.underlying t=some .bool)(hval:ik P aS1 .any base t v):v.cells.toList=[v]:=by
 obtain⟨n,rfl⟩:=WideShapes.okWide_bool ht hval;rfl
def aPa {e:aTP}(ht:P.underlying t=some (.slice e))(hval:ik P aS1 .any base t v):v.cells.toList=[v]:=by
 obtain⟨a,l,c,rfl⟩:=WideShapes.okWide_slice ht hval;rfl
def aPb(ht:∀fs,P.underlying t≠some (.struct fs))(ht':∀n e,P.underlying t≠some (.array n e))(hval:ik P aS1 .any base t v)(hv:∀cs,v≠ .agg cs):v.cells.toList=[v]:=by
 cases v<;>first|rfl|exact absurd rfl (hv _)
end
open Go.Proofs Go.Proofs.YtpdbjkgnmjnebaaGreatDoor Go.MakeChecks
def aSs(h:aS1.ShapedOpen gZ)(hl:laidMetH gZ Rows.topNotationsApartRow.laid aS1):aBB aS1 (fun _ _=>False):=by
 refine⟨?_,?_⟩;rintro b o (⟨rfl,rfl⟩|⟨rfl,ho⟩)
 ·obtain⟨m,hm⟩:=cell_of_shapedOpen_int (g:=0) (t:=3) (zero:= #[.int .i64 0]) (k:=.i64) h (of_decide_eq_true (by kernel_rfl)) (by kernel_rfl) rfl (by kernel_rfl) (by kernel_rfl) (by kernel_rfl);exact⟨_,hm,⟨fun _=>⟨m,rfl⟩,fun f=>by cases f⟩,fun f=>f⟩
 ·rw[laidMetH_plain _ _ _ (by kernel_rfl)]at hl;have hm:=(ij (ij (ij (ij (ij (ij (ij hl)))))));have e:(Rows.laid_strings_asciiSpace:DataW Unit)=Lib.tabData .u8 ((List.range 256).map auD):=by kernel_rfl
  rw[e]at hm;have ht:=Lib.tabIs_of_head (P:=gZ) (g:=1) (t:=330) (e:=5) (n:=256) (by kernel_rfl) (by kernel_rfl) (by kernel_rfl) (by kernel_rfl) (by kernel_rfl) (by kernel_rfl) hm;have hc:=ht.cell (g:=1) (by kernel_rfl) o (by simpa using ho)
  have hz:((List.range 256).map auD).getD o 0=auD o:=by
   rw[List.getD_eq_getElem?_getD,List.getElem?_map,List.getElem?_range ho];rfl
  rw[hz]at hc;exact⟨_,hc,⟨fun f=>(by cases f),fun _=>rfl⟩,fun f=>f⟩
 ·rintro b rfl;refine⟨fun _ f=>f,?_⟩;rw[laidMetH_plain _ _ _ (by kernel_rfl)]at hl;have hm:=(ij (ij hl));have e:(Rows.laid_internal_strconv_uint64pow10:DataW Unit)=Lib.tabData .u64 Lib.pow10Tab:=by kernel_rfl
  rw[e] at hm;have ht:=Lib.tabIs_of_head (P:=gZ) (g:=3) (t:=370) (e:=352) (n:=20) (by kernel_rfl) (by kernel_rfl) (by kernel_rfl) (by kernel_rfl) (by kernel_rfl) (by kernel_rfl) hm;unfold Lib.TabIs World.var? at ht;rw[show Tryz.prog.globalNamed "internal/strconv.uint64pow10" =some 3 by kernel_rfl,Option.bind_some] at ht;split at ht
  ·rename_i cs t fz hh;exact⟨t,fz,by rw[hh,Option.some.inj ht];rfl⟩
  ·cases ht
end Go.Abs
namespace Go.Proofs.YtpdbjkgnmjnebaaGreatDoor
open Go.RowKit
abbrev aNM:List (String×DataW Unit):=[("math/bits.deBruijn32tab",Rows.laid_math_bits_deBruijn32tab),("math/bits.deBruijn64tab",Rows.laid_math_bits_deBruijn64tab),("internal/strconv.uint64pow10",Rows.laid_internal_strconv_uint64pow10),("unicode/utf8.acceptRanges",Rows.laid_unicode_utf8_acceptRanges),("strconv.ErrRange",Rows.laid_strconv_ErrRange),("strconv.ErrSyntax",Rows.laid_strconv_ErrSyntax),("unicode.White_Space",Rows.laid_unicode_White_Space),("strings.asciiSpace",Rows.laid_strings_asciiSpace),("unicode/utf8.first",Rows.laid_unicode_utf8_first)]
noncomputable def azp (os:Os):aTQ:=World.laidAll gZ os aNM
def aNk(os:Os):(azp os).os=os:=World.laidAll_os _ _ _
def aQ9(os:Os)(args:Array aTO):laidMet gZ aNM ((azp os).forCall (fun _ _=>0) ⟨#[],args,[]⟩).memory:=
 laidMet_laidAll args (by kernel_rfl) (by kernel_rfl)
end Go.Proofs.YtpdbjkgnmjnebaaGreatDoor
