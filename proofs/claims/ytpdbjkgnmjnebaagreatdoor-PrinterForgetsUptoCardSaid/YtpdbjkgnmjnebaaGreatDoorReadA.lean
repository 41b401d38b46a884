/- A part of the proof: reading of arguments. -/
import Derived.Test.YtpdbjkgnmjnebaaGreatDoorDataA
import Derived.Test.YtpdbjkgnmjnebaaGreatDoorRows
import Derived.ChangeArms
import Derived.WalkKit
import Derived.ProofKit
import Derived.OpenShut
import Derived.JoinedCond
import Derived.WideKeyArgs
import Derived.Carry
import Derived.Test.YtpdbjkgnmjnebaaGreatDoorCoreA
import Derived.Shelf.Vars
import Derived.Stop.LaidErr
import Derived.MakeChecks
import Derived.Lib.LaidTab
import Derived.Lib.ItoaNum
import Derived.Test.YtpdbjkgnmjnebaaGreatDoorCards
import Derived.Test.YtpdbjkgnmjnebaaGreatDoorTie
import Derived.Deep.DeepHandedRow
import Derived.Lay
import Derived.Deep.DeepWitnessRowRef
import Derived.Test.YtpdbjkgnmjnebaaGreatDoorWalkA
import Derived.Test.YtpdbjkgnmjnebaaGreatDoorWalkB
import Derived.Test.YtpdbjkgnmjnebaaGreatDoorWalkC
import Derived.Test.YtpdbjkgnmjnebaaGreatDoorWalkD
set_option linter.all false
open Go renaming Value→aPR,TypeId→aPS,World→aPT
open Go.DataW renaming trod→iw,trod_struct→iE,Trod→iN
open List renaming drop_zero→iy,getElem?_eq_getElem→iC,append_assoc→iF,map_cons→iG,cons_append→iH,nil_append→iI,append_nil→iJ,map_nil→iK,drop_of_length_le→iL,take_append_drop→iM
open Go.Proofs.Tryz renaming prog→iz
open Go.laidMet renaming tail→iA
open Go.Value renaming okWide→iB,oneCell'→iD
namespace Go.Abs
variable {fs:Array Field}{handsOn held:Bool}{f:FuncId}{E:HI}{k:IntKind}{ps:List MemPlace}{cs:List aPR}{base i n o off:Nat}{sp:Nat->Bool}{H W:Type}{t:aPS}{en:aPS×aPR->H}{v:aPR}{bk:W->Nat}
open Go.Proofs.YtpdbjkgnmjnebaaGreatDoor
def aMr(P:Program)(aO2:aPT)(hk:auK aO2 (fun _ _=>False)):tC:={P,w0:=aO2,M0:=fun _ _=>False,A:=fun _ _=>False,hA:=fun _ _ h=>h.elim,hk}
def aui(P:Program)(aO2:aPT):HI:={w:=aO2,mu:=fun b o=>KR (fun _=>undef) [] b o\/False,U:=fun _=>undef,ln:=fun l=>oO ([]:List lw)[l]?,n:=0}
def aHK{P:Program}{aO2:aPT}(b o:Nat): ¬ (aui P aO2).mu b o:=by
 simp only[aui];rintro(⟨l,x,hx,_⟩|h)
 ·simp at hx
 ·exact h
section
variable {P:Program} {aO2:aPT}
def wfI(k:IntKind)(n:Int):Prop:=(Lit.int k n).wf=true
def aM1{n:Int}(h:wfI .i64 n): -9223372036854775808<=n/\n<=9223372036854775807:=by
 simpa [wfI,Lit.wf,IntKind.min,IntKind.max,IntKind.signed,IntKind.bits] using h
def aNW{n:Int}(h:wfI .u8 n):0<=n/\n<=255:=by
 simpa [wfI,Lit.wf,IntKind.min,IntKind.max,IntKind.signed,IntKind.bits] using h
def aqm(P:Program)(aO2:aPT)(e:W->List AV)(bk:W->Nat)(wf:W->Prop)(cs:List aPR)(d:DataW H):Prop:=
 ∃x,l9 (aui P aO2) (e x) cs/\(∀u∈cs,u.oneCell'=true)/\bk x<=Rows.uptoBulk d/\wf x
def akk{x:DataW H×List MemPlace}(ht:P.underlying t=some (.int k))(h:iw en P aO2 0 sp held n t cs=some x):
 aqm P aO2 (fun m:Int=>[.int k m]) (fun _=>1) (wfI k) cs x.1:=by
 obtain⟨m,rfl,rfl,hw⟩:=DataW.trod_int ht h;exact⟨m,⟨_,[],rfl,rfl,rfl⟩,by simp [iD],by simp [Rows.uptoBulk],hw⟩
def aHL{x:DataW H×List MemPlace}(ht:P.underlying t=some .bool)(h:iw en P aO2 0 sp held n t cs=some x):
 aqm P aO2 (fun m:Bool=>[.bool m]) (fun _=>1) (fun _=>True) cs x.1:=by
 obtain⟨m,rfl,rfl⟩:=DataW.trod_bool ht h;exact⟨m,⟨_,[],rfl,rfl,rfl⟩,by simp [iD],by simp [Rows.uptoBulk],trivial⟩
def aqn{x:DataW H×List MemPlace}(ht:P.underlying t=some .string)(h:iw en P aO2 0 sp held n t cs=some x):
 aqm P aO2 (fun m:lH=>[.str (sb m)]) (fun m=>m.length+1) (fun _=>True) cs x.1:=by
 obtain⟨s,rfl,rfl,_⟩:=DataW.trod_string ht h;exact⟨s.data.toList,⟨_,[],rfl,by rw[aty];rfl,rfl⟩,by simp [iD],by simp [Rows.uptoBulk],trivial⟩
def wk{W:Type}(bk:W->Nat):List W->Nat
 |[]=>1
 |x::xs=>bk x+wk bk xs
theorem aqo{W:Type}{bk:W->Nat}:∀xs:List W,1<=wk bk xs
 |[]=>Nat.le_refl _
 |_::xs=>by have:=aqo (bk:=bk) xs;simp only[wk];omega
def asE{b:Nat}:∀{cs:List AV}{vs:List aPR}{off:Nat},l9 (aui P aO2) cs vs->(∀u∈vs,u.oneCell'=true)->(∀j u,vs[j]? =some u->aO2.cell? ⟨b,off+j,none⟩=some u)->q5 (aui P aO2) b off cs
 |[],_,_,_,_,_=>trivial
 |c::cs,_,off,⟨u,us,rfl,r1,r2⟩,h1,h2=>by
  refine⟨⟨aHK b off,u,h2 0 u (by simp),h1 u (by simp),r1⟩,asE r2 (fun v hv=>h1 v (by simp [hv])) (fun j v hj=>?_)⟩;rw[<-h2 (j+1) v (by simpa using hj)];congr 2;omega
def ahQ {e:aPS}{sz:Nat}{enc:W->List AV}{wf:W->Prop}(ht:P.underlying t=some (.slice e))(hsz:P.cellsOf e=sz)(aDg:0<sz)(hl: ∀x,(enc x).length=sz) (ih: ∀m,m<n-> ∀cs x,iw en P aO2 0 sp held m e cs=some x->aqm P aO2 enc bk wf cs x.1) {x:DataW H×List MemPlace} (h:iw en P aO2 0 sp held n t cs=some x):
 aqm P aO2 (fun xs:List W=>[.mj false sz (mp enc xs)]) (wk bk) (fun xs=>∀y∈xs,wf y) cs x.1:=by
 rcases DataW.trod_slice ht h with⟨rfl,rfl⟩|⟨a,len,cap,elems,rest,m,hm,rfl,rfl,hb,hlc,hmx,hlen,hel,hsp,hns⟩
 ·refine⟨[],⟨_,[],rfl,?_,rfl⟩,by simp [iD],by simp [Rows.uptoBulk,wk],by simp⟩;rw[sZ];exact⟨none,0,rfl,Nat.le_refl _,(by intro h;cases h),fun _=>rfl,(by intro a h;cases h),(by intro a h;cases h)⟩
 ·subst hsz
  have key:∀(k i:Nat),i+k=len->∃xs:List W,xs.length=k/\qI (aui P aO2) (P.cellsOf e) a.block (a.off+i*P.cellsOf e) (mp enc xs)/\wk bk xs<=Rows.uptoBulkAll ((elems.drop i).map (·.1))+1/\(∀y∈xs,wf y)/\(0<k->i=0->a.spot=none):=by
   intro k;induction k with
   |zero=>
    intro i hi;refine⟨[],rfl,by rw[sZ];trivial,?_,by simp,by omega⟩;simp [wk]
   |succ k ihk=>
    intro i hi;obtain⟨xs,hxl,Q3,aIF,hwf,_⟩:=ihk (i+1) (by omega);have hi':i<elems.length:=by omega
    have he:=hel i (by omega);rw[iC hi']at he;obtain⟨vs,hvs,htr⟩:=Option.bind_eq_some_iff.1 he;obtain⟨y,hy,h1,hbk,hw⟩:=ih m (by omega) vs _ htr;obtain⟨_,hvl,wU⟩:=World.cells?_some hvs
    have anm:(a.add (i*P.cellsOf e)).spot=none:=by
     have h0:=wU 0 aDg;have hv0:vs[0]? =some vs[0]:=iC (by omega);rw[hv0]at h0;unfold World.cell? at h0;have:(a.add (i*P.cellsOf e)).add 0=a.add (i*P.cellsOf e):=by unfold Addr.add;simp
     rw[this]at h0;split at h0
     ·split at h0
      ·cases h0
      ·rename_i hs;simpa using hs
     ·cases h0
    have aNX:a.add (i*P.cellsOf e)=⟨a.block,a.off+i*P.cellsOf e,none⟩:=by
     unfold Addr.add at anm ⊢;split
     ·rename_i h0;rw[if_pos h0]at anm;cases a;simp_all
     ·rfl
    refine⟨y::xs,by simp [hxl],?_,?_,?_,?_⟩
    ·rw[sZ]at Q3 ⊢;refine⟨hl y,asE hy h1 (fun j u hj=>?_),?_⟩
     ·have hj':j<P.cellsOf e:=by rw[<-hvl];exact(List.getElem?_eq_some_iff.1 hj).1
      have:=wU j hj';rw[hj,aNX,DC]at this;exact this
     ·have e2:a.off+i*P.cellsOf e+P.cellsOf e=a.off+(i+1)*P.cellsOf e:=by rw[Nat.add_mul];omega
      rw[e2];exact Q3
    ·have e3:elems.drop i=elems[i]::elems.drop (i+1):=List.drop_eq_getElem_cons hi';rw[e3];simp only[iG,Rows.uptoBulkAll,wk];omega
    ·intro z hz;simp only[List.mem_cons]at hz;rcases hz with rfl|hz
     ·exact hw
     ·exact hwf z hz
    ·intro _ h0;subst h0;rw[Nat.zero_mul]at anm;simpa [Addr.add] using anm
  obtain⟨xs,hxl,Q3,aIF,hwf,anm⟩:=key len 0 (by omega);refine⟨xs,⟨_,[],rfl,?_,rfl⟩,by simp [iD],?_,hwf⟩
  ·refine⟨some a,cap,by rw[R4,hxl],by rw[R4,hxl];exact hlc,(by intro h;cases h),(by intro h;cases h),?_,?_⟩
   ·intro a' ha uP;cases ha
    have:0<len:=by
     rw[<-hxl,<-R4 enc xs];exact List.length_pos_iff.2 uP
    exact anm this rfl
   ·intro a' ha;cases ha;simpa using Q3
  ·simp only[iy]at aIF;simp only[Rows.uptoBulk];omega
def fld {ty:Nat}(h:(fs[i]?).map (fun f=>(f.type,f.offset))=some (ty,off)):∃f,fs[i]? =some f/\f.type=ty/\f.offset=off:=by
 cases hf:fs[i]? with
 |none=>rw[hf]at h;cases h
 |some f=>rw[hf]at h;cases h;exact⟨f,rfl,rfl,rfl⟩
def C2 {ty:Nat}{m sz:Nat}{xs:List (DataW H×List MemPlace)}(h:(fs[i]?).map (fun f=>(f.type,f.offset))=some (ty,off))(hsz:P.cellsOf ty=sz)
 (hf:∀(i:Nat)(f:Field),fs[i]? =some f->iw en P aO2 0 sp held m f.type ((cs.drop f.offset).take (P.cellsOf f.type))=xs[i]?) (hi:i<xs.length):iw en P aO2 0 sp held m ty ((cs.drop off).take sz)=some xs[i]:=by
 obtain⟨f,h1,rfl,rfl⟩:=fld h;rw[<-hsz,hf i f h1,iC hi]
def AF{a b:List AV}{s:Nat}(h1:l9 E a ((cs.drop o).take s))(h2:l9 E b (cs.drop (o+s))):l9 E (a++b) (cs.drop o):=by
 have:=l9.append h1 h2;rw[<-List.drop_drop,iM]at this;exact this
def AG {s:Nat}(h1:∀u∈(cs.drop o).take s,u.oneCell'=true)(h2:∀u∈cs.drop (o+s),u.oneCell'=true):∀u∈cs.drop o,u.oneCell'=true:=by
 intro u hu;rw[<-iM s (cs.drop o),List.mem_append,List.drop_drop]at hu;rcases hu with hu|hu
 ·exact h1 u hu
 ·exact h2 u hu
def aoT(h:cs.length=o):l9 E [] (cs.drop o):=by
 rw[iL (by omega)];rfl
def aoU(h:cs.length=o):∀u∈cs.drop o,u.oneCell'=true:=by
 rw[iL (by omega)];simp
end
open Go.Proofs
open Go.Proofs.YtpdbjkgnmjnebaaGreatDoor
set_option maxRecDepth 100000
def k7.rI(x:k7):Nat:=wk (fun m:lH=>m.length+1) x.parts+(1+(1+((x.target.length+1)+1)))
def k7.wf(x:k7):Prop:=(∀y∈x.parts,True)/\wfI .i64 x.tW/\wfI .i64 x.HX/\True/\True
def k7.read{aO2:aPT}:∀(n:Nat)(cs:List aPR)(x:DataW H×List MemPlace),iw en iz aO2 0 sp held n 25 cs=some x->aqm iz aO2 k7.cells k7.rI k7.wf cs x.1
 |n,cs,x,h=>by
  obtain⟨xs,m,hm,rfl,hl,hlen,hf⟩:=iE (fs:=Tryz.prog.fieldsOf 25) (by kernel_rfl) h;have hsz:Tryz.prog.cellsOf 25=4:=by kernel_rfl
  have hfs:(Tryz.prog.fieldsOf 25).size=4:=by kernel_rfl
  rw[hsz]at hl;rw[hfs]at hlen;have h0:=C2 (i:=0) (ty:=23) (off:=0) (sz:=1) (by kernel_rfl) (by kernel_rfl) hf (by omega);have h1:=C2 (i:=1) (ty:=3) (off:=1) (sz:=1) (by kernel_rfl) (by kernel_rfl) hf (by omega);have h2:=C2 (i:=2) (ty:=3) (off:=2) (sz:=1) (by kernel_rfl) (by kernel_rfl) hf (by omega);have h3:=C2 (i:=3) (ty:=9) (off:=3) (sz:=1) (by kernel_rfl) (by kernel_rfl) hf (by omega)
  match xs,hlen,h0,h1,h2,h3 with
  |[y0,y1,y2,y3],_,h0,h1,h2,h3=>
   obtain⟨x0,r0,o0,b0,w0⟩:=ahQ (t:=23) (e:=9) (sz:=1) (enc:=mS) (bk:=(fun m:lH=>m.length+1)) (wf:=(fun _=>True)) (by kernel_rfl) (by kernel_rfl) (by decide) (fun _=>rfl) (fun k hk cs x h=>aqn (t:=9) (by kernel_rfl) h) h0;obtain⟨x1,r1,o1,b1,w1⟩:=akk (t:=3) (k:=.i64) (by kernel_rfl) h1;obtain⟨x2,r2,o2,b2,w2⟩:=akk (t:=3) (k:=.i64) (by kernel_rfl) h2;obtain⟨x3,r3,o3,b3,w3⟩:=aqn (t:=9) (by kernel_rfl) h3;have b0:wk (fun m:lH=>m.length+1) x0<=Rows.uptoBulk y0.1:=b0;have b1:1<=Rows.uptoBulk y1.1:=b1;have b2:1<=Rows.uptoBulk y2.1:=b2;have b3:(x3.length+1)<=Rows.uptoBulk y3.1:=b3;refine⟨⟨x0,x1,x2,x3⟩,?_,?_,?_,?_⟩
   ·have hr:=(AF r0 (AF r1 (AF r2 (AF r3 (aoT hl)))));rw[iy]at hr;rw[k7.mr];simpa only[iF,iH,iI,iJ] using hr
   ·have ho:=(AG o0 (AG o1 (AG o2 (AG o3 (aoU hl)))));rw[iy]at ho;exact ho
   ·simp only[iG,iK,Rows.uptoBulk,Rows.uptoBulkAll,k7.rI];omega
   ·exact⟨w0,w1,w2,w3,trivial⟩
def lz.rI(x:lz):Nat:=(x.name.length+1)+(1+1)
def lz.wf(x:lz):Prop:=True/\wfI .i64 x.plus/\True
def lz.read{aO2:aPT}:∀(n:Nat)(cs:List aPR)(x:DataW H×List MemPlace),iw en iz aO2 0 sp held n 114 cs=some x->aqm iz aO2 lz.cells lz.rI lz.wf cs x.1
 |n,cs,x,h=>by
  obtain⟨xs,m,hm,rfl,hl,hlen,hf⟩:=iE (fs:=Tryz.prog.fieldsOf 114) (by kernel_rfl) h;have hsz:Tryz.prog.cellsOf 114=2:=by kernel_rfl
  have hfs:(Tryz.prog.fieldsOf 114).size=2:=by kernel_rfl
  rw[hsz]at hl;rw[hfs]at hlen;have h0:=C2 (i:=0) (ty:=9) (off:=0) (sz:=1) (by kernel_rfl) (by kernel_rfl) hf (by omega);have h1:=C2 (i:=1) (ty:=3) (off:=1) (sz:=1) (by kernel_rfl) (by kernel_rfl) hf (by omega)
  match xs,hlen,h0,h1 with
  |[y0,y1],_,h0,h1=>
   obtain⟨x0,r0,o0,b0,w0⟩:=aqn (t:=9) (by kernel_rfl) h0;obtain⟨x1,r1,o1,b1,w1⟩:=akk (t:=3) (k:=.i64) (by kernel_rfl) h1;have b0:(x0.length+1)<=Rows.uptoBulk y0.1:=b0;have b1:1<=Rows.uptoBulk y1.1:=b1;refine⟨⟨x0,x1⟩,?_,?_,?_,?_⟩
   ·have hr:=(AF r0 (AF r1 (aoT hl)));rw[iy]at hr;rw[lz.mr];simpa only[iF,iH,iI,iJ] using hr
   ·have ho:=(AG o0 (AG o1 (aoU hl)));rw[iy]at ho;exact ho
   ·simp only[iG,iK,Rows.uptoBulk,Rows.uptoBulkAll,lz.rI];omega
   ·exact⟨w0,w1,trivial⟩
def ld.rI(x:ld):Nat:=1+(wk lz.rI x.A8+1)
def ld.wf(x:ld):Prop:=True/\(∀y∈x.A8,y.wf)/\True
def ld.read{aO2:aPT}:∀(n:Nat)(cs:List aPR)(x:DataW H×List MemPlace),iw en iz aO2 0 sp held n 112 cs=some x->aqm iz aO2 ld.cells ld.rI ld.wf cs x.1
 |n,cs,x,h=>by
  obtain⟨xs,m,hm,rfl,hl,hlen,hf⟩:=iE (fs:=Tryz.prog.fieldsOf 112) (by kernel_rfl) h;have hsz:Tryz.prog.cellsOf 112=2:=by kernel_rfl
  have hfs:(Tryz.prog.fieldsOf 112).size=2:=by kernel_rfl
  rw[hsz]at hl;rw[hfs]at hlen;have h0:=C2 (i:=0) (ty:=4) (off:=0) (sz:=1) (by kernel_rfl) (by kernel_rfl) hf (by omega);have h1:=C2 (i:=1) (ty:=110) (off:=1) (sz:=1) (by kernel_rfl) (by kernel_rfl) hf (by omega)
  match xs,hlen,h0,h1 with
  |[y0,y1],_,h0,h1=>
   obtain⟨x0,r0,o0,b0,w0⟩:=aHL (t:=4) (by kernel_rfl) h0;obtain⟨x1,r1,o1,b1,w1⟩:=ahQ (t:=110) (e:=114) (sz:=2) (enc:=lz.cells) (bk:=lz.rI) (wf:=lz.wf) (by kernel_rfl) (by kernel_rfl) (by decide) lz.length (fun k hk cs x h=>lz.read k cs x h) h1;have b0:1<=Rows.uptoBulk y0.1:=b0;have b1:wk lz.rI x1<=Rows.uptoBulk y1.1:=b1;refine⟨⟨x0,x1⟩,?_,?_,?_,?_⟩
   ·have hr:=(AF r0 (AF r1 (aoT hl)));rw[iy]at hr;rw[ld.mr];simpa only[iF,iH,iI,iJ] using hr
   ·have ho:=(AG o0 (AG o1 (aoU hl)));rw[iy]at ho;exact ho
   ·simp only[iG,iK,Rows.uptoBulk,Rows.uptoBulkAll,ld.rI];omega
   ·exact⟨w0,w1,trivial⟩
mutual
def Syntax.rI:Syntax->Nat
 |.mk kind text num mZ mK mR rJ to=>1+((text.length+1)+(1+(wk (fun m:lH=>m.length+1) mZ+(wk ld.rI mK+(Syntax.aw2 mR+(1+(1+1)))))))
def Syntax.aw2:List Syntax->Nat
 |[]=>1
 |x::xs=>x.rI+Syntax.aw2 xs
end
mutual
def Syntax.wf:Syntax->Prop
 |.mk kind text num mZ mK mR rJ to=>wfI .i64 kind/\True/\wfI .i64 num/\(∀y∈mZ,True)/\(∀y∈mK,y.wf)/\Syntax.wfL mR/\wfI .i64 rJ/\wfI .i64 to/\True
def Syntax.wfL:List Syntax->Prop
 |[]=>True
 |x::xs=>x.wf/\Syntax.wfL xs
end
def Syntax.aqp:∀xs,Syntax.aw2 xs=wk Syntax.rI xs
 |[]=>by simp only[Syntax.aw2,wk]
 |x::xs=>by simp only[Syntax.aw2,wk,Syntax.aqp xs]
def Syntax.aEJ:∀xs,Syntax.wfL xs↔ ∀y∈xs,Syntax.wf y
 |[]=>by simp [Syntax.wfL]
 |x::xs=>by simp [Syntax.wfL,Syntax.aEJ xs]
theorem Syntax.aHM(x:Syntax):x.rI=1+((x.text.length+1)+(1+(wk (fun m:lH=>m.length+1) x.mZ+(wk ld.rI x.mK+(wk Syntax.rI x.mR+(1+(1+1))))))):=by
 cases x;simp only[Syntax.rI,Syntax.aqp];rfl
theorem Syntax.aMs(x:Syntax):x.wf↔(wfI .i64 x.kind/\True/\wfI .i64 x.num/\(∀y∈x.mZ,True)/\(∀y∈x.mK,y.wf)/\(∀y∈x.mR,y.wf)/\wfI .i64 x.rJ/\wfI .i64 x.to/\True):=by
 cases x;simp only[Syntax.wf,Syntax.aEJ];exact Iff.rfl
mutual
def Syntax.read{H:Type}{en:aPS×aPR->H}{aO2:aPT}{sp:Nat->Bool}{held:Bool}:∀(n:Nat)(cs:List aPR)(x:DataW H×List MemPlace),iw en iz aO2 0 sp held n 37 cs=some x->aqm iz aO2 Syntax.cells Syntax.rI Syntax.wf cs x.1
 |n,cs,x,h=>by
  obtain⟨xs,m,hm,rfl,hl,hlen,hf⟩:=iE (fs:=Tryz.prog.fieldsOf 37) (by kernel_rfl) h;have hsz:Tryz.prog.cellsOf 37=8:=by kernel_rfl
  have hfs:(Tryz.prog.fieldsOf 37).size=8:=by kernel_rfl
  rw[hsz]at hl;rw[hfs]at hlen;have h0:=C2 (i:=0) (ty:=3) (off:=0) (sz:=1) (by kernel_rfl) (by kernel_rfl) hf (by omega);have h1:=C2 (i:=1) (ty:=9) (off:=1) (sz:=1) (by kernel_rfl) (by kernel_rfl) hf (by omega);have h2:=C2 (i:=2) (ty:=3) (off:=2) (sz:=1) (by kernel_rfl) (by kernel_rfl) hf (by omega);have h3:=C2 (i:=3) (ty:=23) (off:=3) (sz:=1) (by kernel_rfl) (by kernel_rfl) hf (by omega);have h4:=C2 (i:=4) (ty:=34) (off:=4) (sz:=1) (by kernel_rfl) (by kernel_rfl) hf (by omega);have h5:=C2 (i:=5) (ty:=35) (off:=5) (sz:=1) (by kernel_rfl) (by kernel_rfl) hf (by omega);have h6:=C2 (i:=6) (ty:=3) (off:=6) (sz:=1) (by kernel_rfl) (by kernel_rfl) hf (by omega);have h7:=C2 (i:=7) (ty:=3) (off:=7) (sz:=1) (by kernel_rfl) (by kernel_rfl) hf (by omega)
  match xs,hlen,h0,h1,h2,h3,h4,h5,h6,h7 with
  |[y0,y1,y2,y3,y4,y5,y6,y7],_,h0,h1,h2,h3,h4,h5,h6,h7=>
   obtain⟨x0,r0,o0,b0,w0⟩:=akk (t:=3) (k:=.i64) (by kernel_rfl) h0;obtain⟨x1,r1,o1,b1,w1⟩:=aqn (t:=9) (by kernel_rfl) h1;obtain⟨x2,r2,o2,b2,w2⟩:=akk (t:=3) (k:=.i64) (by kernel_rfl) h2;obtain⟨x3,r3,o3,b3,w3⟩:=ahQ (t:=23) (e:=9) (sz:=1) (enc:=mS) (bk:=(fun m:lH=>m.length+1)) (wf:=(fun _=>True)) (by kernel_rfl) (by kernel_rfl) (by decide) (fun _=>rfl) (fun k hk cs x h=>aqn (t:=9) (by kernel_rfl) h) h3;obtain⟨x4,r4,o4,b4,w4⟩:=ahQ (t:=34) (e:=112) (sz:=2) (enc:=ld.cells) (bk:=ld.rI) (wf:=ld.wf) (by kernel_rfl) (by kernel_rfl) (by decide) ld.length (fun k hk cs x h=>ld.read k cs x h) h4;obtain⟨x5,r5,o5,b5,w5⟩:=ahQ (t:=35) (e:=37) (sz:=8) (enc:=Syntax.cells) (bk:=Syntax.rI) (wf:=Syntax.wf) (by kernel_rfl) (by kernel_rfl) (by decide) Syntax.length (fun k hk cs x h=>Syntax.read k cs x h) h5;obtain⟨x6,r6,o6,b6,w6⟩:=akk (t:=3) (k:=.i64) (by kernel_rfl) h6;obtain⟨x7,r7,o7,b7,w7⟩:=akk (t:=3) (k:=.i64) (by kernel_rfl) h7;have b0:1<=Rows.uptoBulk y0.1:=b0;have b1:(x1.length+1)<=Rows.uptoBulk y1.1:=b1;have b2:1<=Rows.uptoBulk y2.1:=b2;have b3:wk (fun m:lH=>m.length+1) x3<=Rows.uptoBulk y3.1:=b3;have b4:wk ld.rI x4<=Rows.uptoBulk y4.1:=b4;have b5:wk Syntax.rI x5<=Rows.uptoBulk y5.1:=b5;have b6:1<=Rows.uptoBulk y6.1:=b6;have b7:1<=Rows.uptoBulk y7.1:=b7;refine⟨.mk x0 x1 x2 x3 x4 x5 x6 x7,?_,?_,?_,?_⟩
   ·have hr:=(AF r0 (AF r1 (AF r2 (AF r3 (AF r4 (AF r5 (AF r6 (AF r7 (aoT hl)))))))));rw[iy]at hr;rw[Syntax.mr];simpa only[iF,iH,iI,iJ,Syntax.kind,Syntax.text,Syntax.num,Syntax.mZ,Syntax.mK,Syntax.mR,Syntax.rJ,Syntax.to] using hr
   ·have ho:=(AG o0 (AG o1 (AG o2 (AG o3 (AG o4 (AG o5 (AG o6 (AG o7 (aoU hl)))))))));rw[iy]at ho;exact ho
   ·rw[Syntax.aHM];simp only[iG,iK,Rows.uptoBulk,Rows.uptoBulkAll];simp only[Syntax.kind,Syntax.text,Syntax.num,Syntax.mZ,Syntax.mK,Syntax.mR,Syntax.rJ,Syntax.to];omega
   ·rw[Syntax.aMs];exact⟨w0,w1,w2,w3,w4,w5,w6,w7,trivial⟩
 termination_by n=>n
 decreasing_by all_goals omega
end
open Go.Proofs Go.Proofs.YtpdbjkgnmjnebaaGreatDoor Go.RowKit
section
variable {enc:aPS×aPR->H}
def arF{a:Assume}{C:Checked}{os:Os}{fn:Func}{s:OpenSpec}{k:(H:Type)->List (DataW H)->Bool}(hk:s.cond=some k){F:Stop.Interp}{conds:List PathCond}{apart fresh again:Bool}
 (own:ownKnob C.prog.godebug=none) (started:os.Started) (aKd:C.prog.inits.idxOf? f=none) (hfn:C.prog.funcs[f]? =some fn)
 (witness:∃(w:aPT)(tape:Tape)(i:Input),w.os=os/\(w.forCall tape i).Shaped C.prog/\i.vars=[]/\Input.okWide C.prog (w.forCall tape i) .any w.heap.size f i/\
   s.pre6 enc C.prog fn conds apart (w.forCall tape i).memory i.args/\a.holds C.prog (lone (Frame.enter C.prog f i.args .normal) [] (w.forCall tape i)))
 (contract:∀(aO2:aPT)(base:Nat)(args:Array aPR)(ds gs:List (DataW H))(before:List MemPlace),
   (∀(j:Nat) t v,fn.params[j]? =some t->args[j]? =some v->iB C.prog aO2 .any base t v)->
   DataW.Whole enc C.prog fn.params.toList s.vars apart aO2 args.toList ds gs before->
   conds.all (PathCond.test C.prog ⟨fn.params.toList,ds,s.bare.plain.varTypes C.prog,gs⟩)=true->k H (ds++gs)=true->aO2.ShapedOpen C.prog->
   Calls C.prog f args aO2 fun e aO3=>∃v,e=.returned v/\(s.at F).post enc C.prog fn apart fresh handsOn again aO2 args v aO3):
 ReturnsInHanded a C os f .any (s.pre6 enc C.prog fn conds apart) ((s.at F).post enc C.prog fn apart fresh handsOn again):=by
 refine returnsInHanded_of_calls own started aKd witness ?_;intro w tape i _ hsh _ VV aNY aNZ;obtain⟨_,_,_,fn',aN0,_,_,_,_,hval⟩:=VV;have e:fn'=fn:=Option.some.inj (aN0.symm.trans hfn);subst e;obtain⟨ds,gs,before,hw,hc,hkk⟩:=(OpenSpec.pre_some hk conds apart _ _).1 aNY.1;have hw':=DataW.Whole.of_heap (w':=w.forCall tape i) (by rfl) hw;refine(contract (w.forCall tape i) w.heap.size i.args ds gs before hval hw' hc hkk hsh).mono fun e aO3 ⟨v,he,hp⟩=>?_
 subst he;exact ChangeSpec.post_blind hp
end
section
variable {P:Program} {aO2 aO3:aPT}
def aAC(aO2 aO3:aPT):Prop:=aO2.heap.size<=aO3.heap.size/\(∀b,b<aO2.heap.size->aO3.heap[b]? =aO2.heap[b]?)/\(∀x,x.block<aO2.heap.size->aO3.frozen? x=aO2.frozen? x)/\aO3.output=aO2.output/\aO3.os=aO2.os
def aHN(hk:auK aO2 (fun _ _=>False)){args:List AV}{X:AV}{vs:Array aPR}(h:N6 P f args (fun r=>r=X))(hr:l9 (aui P aO2) args vs.toList):
 Calls P f vs aO2 fun e aO3=>∃v U',e=.returned v/\rD ((aMr P aO2 hk).env U' [] aO3) X v/\aAC aO2 aO3:=by
 refine(h.2.2 (aMr P aO2 hk) (fun _=>undef) aO2 rfl rfl rfl (fun _ _ h=>h) vs hr).mono ?_;rintro e aO3 ⟨r,v,U',rfl,he,wm,h1,h2,h3,h4,h5⟩;exact⟨v,U',he,wm,h1,h2,h3,h4,h5⟩
def aAC.kept(h:aAC aO2 aO3)(may:MemPlace->Prop):aO2.keptBut aO3 may:=by
 obtain⟨h1,h2,h3,h4,h5⟩:=h;refine⟨h5,h4,fun i hi=>?_⟩;rw[h2 i hi];cases aO2.heap[i]? with
 |none=>rfl
 |some o=>
  cases o with
  |cells c t fr=>exact⟨rfl,rfl,rfl,fun _ _=>rfl⟩
  |map es clock=>exact .inr ⟨rfl,rfl⟩
  |_=>rfl
def aFD{enc:aPS×aPR->H}{f:Func}{s:ChangeSpec}{apart fresh again:Bool}{args:Array aPR}{ds gs:List (DataW H)}{before pa pv:List MemPlace}
 (hW:DataW.Whole enc P f.params.toList s.vars apart aO2 args.toList ds gs before)
 (aw3:∀(b:Nat)(sp:Nat->Bool)(hd:Bool),DataW.TrodAll enc P aO3 b sp hd f.resultTypes.toList (v.resultList f.resultTypes.size) (s.fn H (ds++gs)).results [])
 (aO1:∀sp:Nat->Bool,(∀p∈before,sp p.block=true)->DataW.TrodAll enc P aO3 0 sp true f.params.toList args.toList (s.fn H (ds++gs)).args pa)
 (aIG:∀sp:Nat->Bool,(∀p∈before,sp p.block=true)->DataW.TrodVars enc P aO3 sp s.vars (s.fn H (ds++gs)).vars pv)
 (hps:before=pa++pv) (hk:aO2.keptBut aO3 (· ∈before)) (hfz:∀a,a.block<aO2.heap.size->aO3.frozen? a=aO2.frozen? a)
 (VV:∀(j:Nat)(t:aPS)(r:aPR),f.resultTypes[j]? =some t->(v.resultList f.resultTypes.size)[j]? =some r->iB P aO3 .any 0 t r):
 s.post enc P f apart fresh handsOn again aO2 args v aO3:=by
 have hold:∀p∈before,(fun b=>decide (b<aO2.heap.size)) p.block=true:=fun p hp=>by simpa using hW.lt p hp
 have q9:=hW.lt;refine⟨ds,gs,before,[],pa,pv,hW,aw3 _ _ _,aO1 _ hold,aIG _ hold,World.keptBut_mono (fun p hp=>⟨hp,?_⟩) hk,fun _=>?_⟩
 ·rw[hps,List.mem_append]at hp;exact Or.inr hp
 ·obtain⟨_,_,_,_,_,hz,hn⟩:=hW;refine⟨VV,_,_,([]++pa)++pv,⟨[]++pa,pv,Go.ChangeShapes.trodAll_append (aO1 _ (fun _ _=>rfl)) (aw3 _ _ _),aIG _ (fun _ _=>rfl),rfl,?_,?_⟩,?_⟩
  ·intro b off hp;have hp':MemPlace.cell b off∈before:=by rw[hps];simpa using hp
   rw[hfz _ (q9 _ hp')];exact hz b off hp'
  ·intro ha;have:=hn ha;rw[hps]at this;simpa using this
  ·intro p hp _;rw[hps];simpa using hp
def aKH(hl:laidOutB P=true)(hr:P.readableRec t=true)(aHz:t<P.types.size){d:DataW H}
 (h:iN en P aO2 0 (fun _=>true) true t v d ps) (hL:aAC aO2 aO3) (hs:∀p∈ps,sp p.block=true):iN en P aO3 0 sp true t v d ps:=by
 refine WideElems.Trod_stays hl hr aHz h (fun p hp=>?_) hs;obtain⟨n,hn⟩:=h;have hb:=DataW.trod_lt n t _ _ hn p hp;cases p with
 |cell b off=>
  have uD:b<aO2.heap.size:=hb;show aO3.cell? ⟨b,off,none⟩=aO2.cell? ⟨b,off,none⟩;simp only[World.cell?,hL.2.1 b uD]
 |map b=>exact hL.2.1 b hb
def aKe{e:W->List AV}{wf:W->Prop}{d:DataW H}(ht:P.underlying t=some (.struct fs))(hval:iB P aO2 .any base t v)
 (h:iN en P aO2 0 (fun _=>true) true t v d ps) (aEK:∀n cs x,iw en P aO2 0 (fun _=>true) true n t cs=some x->aqm P aO2 e bk wf cs x.1):
 ∃x,rD (aui P aO2) (.agg (e x)) v/\bk x<=Rows.uptoBulk d/\wf x:=by
 obtain⟨cs,rfl,_⟩:=WideShapes.okWide_struct ht hval;obtain⟨n,hn⟩:=h;obtain⟨x,hr,_,hb,hw⟩:=aEK n _ _ hn;exact⟨x,⟨cs,rfl,hr⟩,hb,hw⟩
def aMt{e:W->AV}{wf:W->Prop}{d:DataW H}(hv:v.cells.toList=[v])
 (h:iN en P aO2 0 (fun _=>true) true t v d ps) (aEK:∀n cs x,iw en P aO2 0 (fun _=>true) true n t cs=some x->aqm P aO2 (fun x=>[e x]) bk wf cs x.1):
 ∃x,rD (aui P aO2) (e x) v/\bk x<=Rows.uptoBulk d/\wf x:=by
 obtain⟨n,hn⟩:=h;obtain⟨x,hr,_,hb,hw⟩:=aEK n _ _ hn;rw[hv]at hr;obtain⟨u,us,he,h1,_⟩:=hr;simp only[List.cons.injEq]at he;obtain⟨rfl,_⟩:=he;exact⟨x,h1,hb,hw⟩
def aMu(ht:P.underlying t=some (.int k))(hval:iB P aO2 .any base t v):v.cells.toList=[v]:=by
 obtain⟨n,rfl⟩:=WideShapes.okWide_int ht hval;rfl
def aIH(ht:P.underlying t=some .string)(hval:iB P aO2 .any base t v):v.cells.toList=[v]:=by
 obtain⟨n,rfl⟩:=WideShapes.okWide_string ht hval;rfl
def aKI(ht:P.underlying t=some .bool)(hval:iB P aO2 .any base t v):v.cells.toList=[v]:=by
 obtain⟨n,rfl⟩:=WideShapes.okWide_bool ht hval;rfl
def aKf {e:aPS}(ht:P.underlying t=some (.slice e))(hval:iB P aO2 .any base t v):v.cells.toList=[v]:=by
 obtain⟨a,l,c,rfl⟩:=WideShapes.okWide_slice ht hval;rfl
def aKg(ht:∀fs,P.underlying t≠some (.struct fs))(ht':∀n e,P.underlying t≠some (.array n e))(hval:iB P aO2 .any base t v)(hv:∀cs,v≠ .agg cs):v.cells.toList=[v]:=by
 cases v<;>first|rfl|exact absurd rfl (hv _)
end
open Go.Proofs Go.Proofs.YtpdbjkgnmjnebaaGreatDoor Go.MakeChecks
def aOo{aO2:aPT}(h:aO2.ShapedOpen iz)(hl:laidMetH iz Rows.topNotationsApartRow.laid aO2):auK aO2 (fun _ _=>False):=by
 refine⟨?_,?_⟩;rintro b o (⟨rfl,rfl⟩|⟨rfl,ho⟩)
 ·obtain⟨m,hm⟩:=cell_of_shapedOpen_int (g:=0) (t:=3) (zero:= #[.int .i64 0]) (k:=.i64) h (of_decide_eq_true (by kernel_rfl)) (by kernel_rfl) rfl (by kernel_rfl) (by kernel_rfl) (by kernel_rfl);exact⟨_,hm,⟨fun _=>⟨m,rfl⟩,fun f=>by cases f⟩,fun f=>f⟩
 ·rw[laidMetH_plain _ _ _ (by kernel_rfl)]at hl;have hm:=(iA (iA (iA (iA (iA (iA (iA hl)))))));have e:(Rows.laid_strings_asciiSpace:DataW Unit)=Lib.tabData .u8 ((List.range 256).map aoX):=by kernel_rfl
  rw[e]at hm;have ht:=Lib.tabIs_of_head (P:=iz) (g:=1) (t:=330) (e:=5) (n:=256) (by kernel_rfl) (by kernel_rfl) (by kernel_rfl) (by kernel_rfl) (by kernel_rfl) (by kernel_rfl) hm;have hc:=ht.cell (g:=1) (by kernel_rfl) o (by simpa using ho)
  have hz:((List.range 256).map aoX).getD o 0=aoX o:=by
   rw[List.getD_eq_getElem?_getD,List.getElem?_map,List.getElem?_range ho];rfl
  rw[hz]at hc;exact⟨_,hc,⟨fun f=>(by cases f),fun _=>rfl⟩,fun f=>f⟩
 ·rintro b rfl;refine⟨fun _ f=>f,?_⟩;rw[laidMetH_plain _ _ _ (by kernel_rfl)]at hl;have hm:=(iA (iA hl));have e:(Rows.laid_internal_strconv_uint64pow10:DataW Unit)=Lib.tabData .u64 Lib.pow10Tab:=by kernel_rfl
  rw[e] at hm;have ht:=Lib.tabIs_of_head (P:=iz) (g:=3) (t:=370) (e:=352) (n:=20) (by kernel_rfl) (by kernel_rfl) (by kernel_rfl) (by kernel_rfl) (by kernel_rfl) (by kernel_rfl) hm;unfold Lib.TabIs World.var? at ht;rw[show Tryz.prog.globalNamed "internal/strconv.uint64pow10" =some 3 by kernel_rfl,Option.bind_some] at ht;split at ht
  ·rename_i cs t fz hh;exact⟨t,fz,by rw[hh,Option.some.inj ht];rfl⟩
  ·cases ht
end Go.Abs
namespace Go.Proofs.YtpdbjkgnmjnebaaGreatDoor
open Go.RowKit
abbrev aII:List (String×DataW Unit):=[("math/bits.deBruijn32tab",Rows.laid_math_bits_deBruijn32tab),("math/bits.deBruijn64tab",Rows.laid_math_bits_deBruijn64tab),("internal/strconv.uint64pow10",Rows.laid_internal_strconv_uint64pow10),("unicode/utf8.acceptRanges",Rows.laid_unicode_utf8_acceptRanges),("strconv.ErrRange",Rows.laid_strconv_ErrRange),("strconv.ErrSyntax",Rows.laid_strconv_ErrSyntax),("unicode.White_Space",Rows.laid_unicode_White_Space),("strings.asciiSpace",Rows.laid_strings_asciiSpace),("unicode/utf8.first",Rows.laid_unicode_utf8_first)]
noncomputable def asF (os:Os):aPT:=World.laidAll iz os aII
def aHO(os:Os):(asF os).os=os:=World.laidAll_os _ _ _
def aMv(os:Os)(args:Array aPR):laidMet iz aII ((asF os).forCall (fun _ _=>0) ⟨#[],args,[]⟩).memory:=
 laidMet_laidAll args (by kernel_rfl) (by kernel_rfl)
end Go.Proofs.YtpdbjkgnmjnebaaGreatDoor
