/- A part of the proof: reading of arguments. -/
import Derived.Test.YtdkeelhebopgkaaGreatDoorDataA
import Derived.Test.YtdkeelhebopgkaaGreatDoorRows
import Derived.ChangeArms
import Derived.WalkKit
import Derived.ProofKit
import Derived.OpenShut
import Derived.JoinedCond
import Derived.WideKeyArgs
import Derived.Carry
import Derived.Test.YtdkeelhebopgkaaGreatDoorCoreA
import Derived.Shelf.Vars
import Derived.Stop.LaidErr
import Derived.MakeChecks
import Derived.Lib.LaidTab
import Derived.Test.YtdkeelhebopgkaaGreatDoorCards
import Derived.Test.YtdkeelhebopgkaaGreatDoorTie
import Derived.Deep.DeepHandedRow
import Derived.Lay
import Derived.Deep.DeepWitnessRowRef
import Derived.Test.YtdkeelhebopgkaaGreatDoorWalkA
import Derived.Test.YtdkeelhebopgkaaGreatDoorWalkB
import Derived.Test.YtdkeelhebopgkaaGreatDoorWalkC
set_option linter.all false
open Go.DataW renaming trod → fR,trod_struct → fY,Trod → gq
open List renaming drop_zero → fS,getElem?_eq_getElem → fW,append_assoc → fZ,map_cons → ga,cons_append → gb,nil_append → gf,append_nil → gh,map_nil → gi,drop_of_length_le → gj,take_append_drop → gp
open Go.Proofs.Tryz renaming prog → fT
open Go.Value renaming okWide → fU,oneCell' → fX
open Go.laidMet renaming tail → fV
namespace Go.Abs
variable {fs:Array Field}{handsOn held:Bool}{E:Env}{f:FuncId}{k:IntKind}{ps:List MemPlace}{cs:List Value}{base i n o off:Nat}{sp:Nat->Bool}{H α:Type}{t:TypeId}{en:TypeId×Value->H}{v:Value}{W:World}{bk:α->Nat}
open Go.Proofs.YtdkeelhebopgkaaGreatDoor
def aBy(P:Program)(W:World)(hk:ajl W (fun _ _=>False)):pX:={P,w0:=W,M0:=fun _ _=>False,A:=fun _ _=>False,hA:=fun _ _ h=>h.elim,hk}
def aiP(P:Program)(W:World):Env:={w:=W,mu:=fun b o=>Eh (fun _=>undef) [] b o\/False,φ:=fun _=>undef,ln:=fun l=>lT ([]:List kq)[l]?,n:=0}
def awS{P:Program}(b o:Nat): ¬ (aiP P W).mu b o:=by
 simp only[aiP];rintro(⟨l,x,hx,_⟩|h)
 ·simp at hx
 ·exact h
section
variable {P:Program}
def wfI(k:IntKind)(n:Int):Prop:=(Lit.int k n).wf=true
def aCf{n:Int}(h:wfI .i64 n): -9223372036854775808<=n/\n<=9223372036854775807:=by
 simpa [wfI,Lit.wf,IntKind.min,IntKind.max,IntKind.signed,IntKind.bits] using h
def aC8{n:Int}(h:wfI .u8 n):0<=n/\n<=255:=by
 simpa [wfI,Lit.wf,IntKind.min,IntKind.max,IntKind.signed,IntKind.bits] using h
def ae8(P:Program)(W:World)(e:α->List AV)(bk:α->Nat)(wf:α->Prop)(cs:List Value)(d:DataW H):Prop:=
 ∃x,kC (aiP P W) (e x) cs/\(∀u∈cs,u.oneCell'=true)/\bk x<=Rows.uptoBulk d/\wf x
def Zw{x:DataW H×List MemPlace}(ht:P.underlying t=some (.int k))(h:fR en P W 0 sp held n t cs=some x):
 ae8 P W (fun m:Int=>[.int k m]) (fun _=>1) (wfI k) cs x.1:=by
 obtain⟨m,rfl,rfl,hw⟩:=DataW.trod_int ht h;exact⟨m,⟨_,[],rfl,rfl,rfl⟩,by simp [fX],by simp [Rows.uptoBulk],hw⟩
def awT{x:DataW H×List MemPlace}(ht:P.underlying t=some .bool)(h:fR en P W 0 sp held n t cs=some x):
 ae8 P W (fun m:Bool=>[.bool m]) (fun _=>1) (fun _=>True) cs x.1:=by
 obtain⟨m,rfl,rfl⟩:=DataW.trod_bool ht h;exact⟨m,⟨_,[],rfl,rfl,rfl⟩,by simp [fX],by simp [Rows.uptoBulk],trivial⟩
def ae9{x:DataW H×List MemPlace}(ht:P.underlying t=some .string)(h:fR en P W 0 sp held n t cs=some x):
 ae8 P W (fun m:Str=>[.str (sb m)]) (fun m=>m.length+1) (fun _=>True) cs x.1:=by
 obtain⟨s,rfl,rfl,_⟩:=DataW.trod_string ht h;exact⟨s.data.toList,⟨_,[],rfl,by rw[aic];rfl,rfl⟩,by simp [fX],by simp [Rows.uptoBulk],trivial⟩
def E7{α:Type}(bk:α->Nat):List α->Nat
 |[]=>1
 |x::xs=>bk x+E7 bk xs
theorem afa{α:Type}{bk:α->Nat}: ∀xs:List α,1<=E7 bk xs
 |[]=>Nat.le_refl _
 |_::xs=>by have:=afa (bk:=bk) xs;simp only[E7];omega
def ahj{b:Nat}: ∀{cs:List AV}{vs:List Value}{off:Nat},kC (aiP P W) cs vs->(∀u∈vs,u.oneCell'=true)->(∀j u,vs[j]? =some u->W.cell? ⟨b,off+j,none⟩=some u)->ni (aiP P W) b off cs
 |[],_,_,_,_,_=>trivial
 |c::cs,_,off,⟨u,us,rfl,r1,r2⟩,h1,h2=>by
  refine⟨⟨awS b off,u,h2 0 u (by simp),h1 u (by simp),r1⟩,ahj r2 (fun v hv=>h1 v (by simp [hv])) (fun j v hj=> ?_)⟩;rw[<-h2 (j+1) v (by simpa using hj)];congr 2;omega
def WK {e:TypeId}{sz:Nat}{enc:α->List AV}{wf:α->Prop}(ht:P.underlying t=some (.slice e))(hsz:P.cellsOf e=sz)(hpos:0<sz)(hl: ∀x,(enc x).length=sz) (ih: ∀m,m<n-> ∀cs x,fR en P W 0 sp held m e cs=some x->ae8 P W enc bk wf cs x.1) {x:DataW H×List MemPlace} (h:fR en P W 0 sp held n t cs=some x):
 ae8 P W (fun xs:List α=>[.mb false sz (mp enc xs)]) (E7 bk) (fun xs=> ∀y∈xs,wf y) cs x.1:=by
 rcases DataW.trod_slice ht h with⟨rfl,rfl⟩|⟨a,len,cap,elems,rest,m,hm,rfl,rfl,hb,hlc,hmx,hlen,hel,hsp,hns⟩
 ·refine⟨[],⟨_,[],rfl,?_,rfl⟩,by simp [fX],by simp [Rows.uptoBulk,E7],by simp⟩;rw[rH];exact⟨none,0,rfl,Nat.le_refl _,(by intro h;cases h),fun _=>rfl,(by intro a h;cases h),(by intro a h;cases h)⟩
 ·subst hsz
  have key: ∀(k i:Nat),i+k=len-> ∃xs:List α,xs.length=k/\mU (aiP P W) (P.cellsOf e) a.block (a.off+i*P.cellsOf e) (mp enc xs)/\E7 bk xs<=Rows.uptoBulkAll ((elems.drop i).map (·.1))+1/\(∀y∈xs,wf y)/\(0<k->i=0->a.spot=none):=by
   intro k;induction k with
   |zero=>
    intro i hi;refine⟨[],rfl,by rw[rH];trivial,?_,by simp,by omega⟩;simp [E7]
   |succ k ihk=>
    intro i hi;obtain⟨xs,hxl,hrows,ax3,hwf,_⟩:=ihk (i+1) (by omega);have hi':i<elems.length:=by omega
    have he:=hel i (by omega);rw[fW hi'] at he;obtain⟨vs,hvs,htr⟩:=Option.bind_eq_some_iff.1 he;obtain⟨y,hy,h1,hbk,hw⟩:=ih m (by omega) vs _ htr;obtain⟨_,hvl,hcell⟩:=World.cells?_some hvs
    have ahk:(a.add (i*P.cellsOf e)).spot=none:=by
     have h0:=hcell 0 hpos;have hv0:vs[0]? =some vs[0]:=fW (by omega);rw[hv0] at h0;unfold World.cell? at h0;have:(a.add (i*P.cellsOf e)).add 0=a.add (i*P.cellsOf e):=by unfold Addr.add;simp
     rw[this] at h0;split at h0
     ·split at h0
      ·cases h0
      ·rename_i hs;simpa using hs
     ·cases h0
    have aC9:a.add (i*P.cellsOf e)=⟨a.block,a.off+i*P.cellsOf e,none⟩:=by
     unfold Addr.add at ahk ⊢;split
     ·rename_i h0;rw[if_pos h0] at ahk;cases a;simp_all
     ·rfl
    refine⟨y::xs,by simp [hxl],?_,?_,?_,?_⟩
    ·rw[rH] at hrows ⊢;refine⟨hl y,ahj hy h1 (fun j u hj=> ?_),?_⟩
     ·have hj':j<P.cellsOf e:=by rw[<-hvl];exact(List.getElem?_eq_some_iff.1 hj).1
      have:=hcell j hj';rw[hj,aC9,add_plain] at this;exact this
     ·have e2:a.off+i*P.cellsOf e+P.cellsOf e=a.off+(i+1)*P.cellsOf e:=by rw[Nat.add_mul];omega
      rw[e2];exact hrows
    ·have e3:elems.drop i=elems[i]::elems.drop (i+1):=List.drop_eq_getElem_cons hi';rw[e3];simp only[ga,Rows.uptoBulkAll,E7];omega
    ·intro z hz;simp only[List.mem_cons] at hz;rcases hz with rfl|hz
     ·exact hw
     ·exact hwf z hz
    ·intro _ h0;subst h0;rw[Nat.zero_mul] at ahk;simpa [Addr.add] using ahk
  obtain⟨xs,hxl,hrows,ax3,hwf,ahk⟩:=key len 0 (by omega);refine⟨xs,⟨_,[],rfl,?_,rfl⟩,by simp [fX],?_,hwf⟩
  ·refine⟨some a,cap,by rw[LA,hxl],by rw[LA,hxl];exact hlc,(by intro h;cases h),(by intro h;cases h),?_,?_⟩
   ·intro a' ha hne;cases ha
    have:0<len:=by
     rw[<-hxl,<-LA enc xs];exact List.length_pos_iff.2 hne
    exact ahk this rfl
   ·intro a' ha;cases ha;simpa using hrows
  ·simp only[fS] at ax3;simp only[Rows.uptoBulk];omega
def fld {ty:Nat}(h:(fs[i]?).map (fun f=>(f.type,f.offset))=some (ty,off)): ∃f,fs[i]? =some f/\f.type=ty/\f.offset=off:=by
 cases hf:fs[i]? with
 |none=>rw[hf] at h;cases h
 |some f=>rw[hf] at h;cases h;exact⟨f,rfl,rfl,rfl⟩
def wK {ty:Nat}{m sz:Nat}{xs:List (DataW H×List MemPlace)}(h:(fs[i]?).map (fun f=>(f.type,f.offset))=some (ty,off))(hsz:P.cellsOf ty=sz)
 (hf: ∀(i:Nat)(f:Field),fs[i]? =some f->fR en P W 0 sp held m f.type ((cs.drop f.offset).take (P.cellsOf f.type))=xs[i]?) (hi:i<xs.length):fR en P W 0 sp held m ty ((cs.drop off).take sz)=some xs[i]:=by
 obtain⟨f,h1,rfl,rfl⟩:=fld h;rw[<-hsz,hf i f h1,fW hi]
def ur{a b:List AV}{s:Nat}(h1:kC E a ((cs.drop o).take s))(h2:kC E b (cs.drop (o+s))):kC E (a++b) (cs.drop o):=by
 have:=kC.append h1 h2;rw[<-List.drop_drop,gp] at this;exact this
def ut {s:Nat}(h1: ∀u∈(cs.drop o).take s,u.oneCell'=true)(h2: ∀u∈cs.drop (o+s),u.oneCell'=true): ∀u∈cs.drop o,u.oneCell'=true:=by
 intro u hu;rw[<-gp s (cs.drop o),List.mem_append,List.drop_drop] at hu;rcases hu with hu|hu
 ·exact h1 u hu
 ·exact h2 u hu
def adz(h:cs.length=o):kC E [] (cs.drop o):=by
 rw[gj (by omega)];rfl
def adA(h:cs.length=o): ∀u∈cs.drop o,u.oneCell'=true:=by
 rw[gj (by omega)];simp
end
open Go.Proofs
open Go.Proofs.YtdkeelhebopgkaaGreatDoor
set_option maxRecDepth 100000
def kf.vI(x:kf):Nat:=(x.name.length+1)+(1+1)
def kf.wf(x:kf):Prop:=True/\wfI .i64 x.plus/\True
def kf.read: ∀(n:Nat)(cs:List Value)(x:DataW H×List MemPlace),fR en fT W 0 sp held n 82 cs=some x->ae8 fT W kf.cells kf.vI kf.wf cs x.1
 |n,cs,x,h=>by
  obtain⟨xs,m,hm,rfl,hl,hlen,hf⟩:=fY (fs:=Tryz.prog.fieldsOf 82) (by kernel_rfl) h;have hsz:Tryz.prog.cellsOf 82=2:=by kernel_rfl
  have hfs:(Tryz.prog.fieldsOf 82).size=2:=by kernel_rfl
  rw[hsz] at hl;rw[hfs] at hlen;have h0:=wK (i:=0) (ty:=9) (off:=0) (sz:=1) (by kernel_rfl) (by kernel_rfl) hf (by omega);have h1:=wK (i:=1) (ty:=3) (off:=1) (sz:=1) (by kernel_rfl) (by kernel_rfl) hf (by omega)
  match xs,hlen,h0,h1 with
  |[y0,y1],_,h0,h1=>
   obtain⟨x0,r0,o0,b0,w0⟩:=ae9 (t:=9) (by kernel_rfl) h0;obtain⟨x1,r1,o1,b1,w1⟩:=Zw (t:=3) (k:= .i64) (by kernel_rfl) h1;have b0:(x0.length+1)<=Rows.uptoBulk y0.1:=b0;have b1:1<=Rows.uptoBulk y1.1:=b1;refine⟨⟨x0,x1⟩,?_,?_,?_,?_⟩
   ·have hr:=(ur r0 (ur r1 (adz hl)));rw[fS] at hr;rw[kf.nA];simpa only[fZ,gb,gf,gh] using hr
   ·have ho:=(ut o0 (ut o1 (adA hl)));rw[fS] at ho;exact ho
   ·simp only[ga,gi,Rows.uptoBulk,Rows.uptoBulkAll,kf.vI];omega
   ·exact⟨w0,w1,trivial⟩
def j7.vI(x:j7):Nat:=1+(E7 kf.vI x.lz+1)
def j7.wf(x:j7):Prop:=True/\(∀y∈x.lz,y.wf)/\True
def j7.read: ∀(n:Nat)(cs:List Value)(x:DataW H×List MemPlace),fR en fT W 0 sp held n 80 cs=some x->ae8 fT W j7.cells j7.vI j7.wf cs x.1
 |n,cs,x,h=>by
  obtain⟨xs,m,hm,rfl,hl,hlen,hf⟩:=fY (fs:=Tryz.prog.fieldsOf 80) (by kernel_rfl) h;have hsz:Tryz.prog.cellsOf 80=2:=by kernel_rfl
  have hfs:(Tryz.prog.fieldsOf 80).size=2:=by kernel_rfl
  rw[hsz] at hl;rw[hfs] at hlen;have h0:=wK (i:=0) (ty:=4) (off:=0) (sz:=1) (by kernel_rfl) (by kernel_rfl) hf (by omega);have h1:=wK (i:=1) (ty:=78) (off:=1) (sz:=1) (by kernel_rfl) (by kernel_rfl) hf (by omega)
  match xs,hlen,h0,h1 with
  |[y0,y1],_,h0,h1=>
   obtain⟨x0,r0,o0,b0,w0⟩:=awT (t:=4) (by kernel_rfl) h0;obtain⟨x1,r1,o1,b1,w1⟩:=WK (t:=78) (e:=82) (sz:=2) (enc:=kf.cells) (bk:=kf.vI) (wf:=kf.wf) (by kernel_rfl) (by kernel_rfl) (by decide) kf.length (fun k hk cs x h=>kf.read k cs x h) h1;have b0:1<=Rows.uptoBulk y0.1:=b0;have b1:E7 kf.vI x1<=Rows.uptoBulk y1.1:=b1;refine⟨⟨x0,x1⟩,?_,?_,?_,?_⟩
   ·have hr:=(ur r0 (ur r1 (adz hl)));rw[fS] at hr;rw[j7.nA];simpa only[fZ,gb,gf,gh] using hr
   ·have ho:=(ut o0 (ut o1 (adA hl)));rw[fS] at ho;exact ho
   ·simp only[ga,gi,Rows.uptoBulk,Rows.uptoBulkAll,j7.vI];omega
   ·exact⟨w0,w1,trivial⟩
mutual
def Syntax.vI:Syntax->Nat
 | .mk kind text num names levels kids from_ to=>1+((text.length+1)+(1+(E7 (fun m:Str=>m.length+1) names+(E7 j7.vI levels+(Syntax.aln kids+(1+(1+1)))))))
def Syntax.aln:List Syntax->Nat
 |[]=>1
 |x::xs=>x.vI+Syntax.aln xs
end
mutual
def Syntax.wf:Syntax->Prop
 | .mk kind text num names levels kids from_ to=>wfI .i64 kind/\True/\wfI .i64 num/\(∀y∈names,True)/\(∀y∈levels,y.wf)/\Syntax.wfL kids/\wfI .i64 from_/\wfI .i64 to/\True
def Syntax.wfL:List Syntax->Prop
 |[]=>True
 |x::xs=>x.wf/\Syntax.wfL xs
end
def Syntax.afb: ∀xs,Syntax.aln xs=E7 Syntax.vI xs
 |[]=>by simp only[Syntax.aln,E7]
 |x::xs=>by simp only[Syntax.aln,E7,Syntax.afb xs]
def Syntax.atx: ∀xs,Syntax.wfL xs↔ ∀y∈xs,Syntax.wf y
 |[]=>by simp [Syntax.wfL]
 |x::xs=>by simp [Syntax.wfL,Syntax.atx xs]
theorem Syntax.awU(x:Syntax):x.vI=1+((x.text.length+1)+(1+(E7 (fun m:Str=>m.length+1) x.names+(E7 j7.vI x.levels+(E7 Syntax.vI x.kids+(1+(1+1))))))):=by
 cases x;simp only[Syntax.vI,Syntax.afb];rfl
theorem Syntax.aBz(x:Syntax):x.wf↔(wfI .i64 x.kind/\True/\wfI .i64 x.num/\(∀y∈x.names,True)/\(∀y∈x.levels,y.wf)/\(∀y∈x.kids,y.wf)/\wfI .i64 x.from_/\wfI .i64 x.to/\True):=by
 cases x;simp only[Syntax.wf,Syntax.atx];exact Iff.rfl
mutual
def Syntax.read{H:Type}{en:TypeId×Value->H}{W:World}{sp:Nat->Bool}{held:Bool}: ∀(n:Nat)(cs:List Value)(x:DataW H×List MemPlace),fR en fT W 0 sp held n 29 cs=some x->ae8 fT W Syntax.cells Syntax.vI Syntax.wf cs x.1
 |n,cs,x,h=>by
  obtain⟨xs,m,hm,rfl,hl,hlen,hf⟩:=fY (fs:=Tryz.prog.fieldsOf 29) (by kernel_rfl) h;have hsz:Tryz.prog.cellsOf 29=8:=by kernel_rfl
  have hfs:(Tryz.prog.fieldsOf 29).size=8:=by kernel_rfl
  rw[hsz] at hl;rw[hfs] at hlen;have h0:=wK (i:=0) (ty:=3) (off:=0) (sz:=1) (by kernel_rfl) (by kernel_rfl) hf (by omega);have h1:=wK (i:=1) (ty:=9) (off:=1) (sz:=1) (by kernel_rfl) (by kernel_rfl) hf (by omega);have h2:=wK (i:=2) (ty:=3) (off:=2) (sz:=1) (by kernel_rfl) (by kernel_rfl) hf (by omega);have h3:=wK (i:=3) (ty:=25) (off:=3) (sz:=1) (by kernel_rfl) (by kernel_rfl) hf (by omega);have h4:=wK (i:=4) (ty:=26) (off:=4) (sz:=1) (by kernel_rfl) (by kernel_rfl) hf (by omega);have h5:=wK (i:=5) (ty:=27) (off:=5) (sz:=1) (by kernel_rfl) (by kernel_rfl) hf (by omega);have h6:=wK (i:=6) (ty:=3) (off:=6) (sz:=1) (by kernel_rfl) (by kernel_rfl) hf (by omega);have h7:=wK (i:=7) (ty:=3) (off:=7) (sz:=1) (by kernel_rfl) (by kernel_rfl) hf (by omega)
  match xs,hlen,h0,h1,h2,h3,h4,h5,h6,h7 with
  |[y0,y1,y2,y3,y4,y5,y6,y7],_,h0,h1,h2,h3,h4,h5,h6,h7=>
   obtain⟨x0,r0,o0,b0,w0⟩:=Zw (t:=3) (k:= .i64) (by kernel_rfl) h0;obtain⟨x1,r1,o1,b1,w1⟩:=ae9 (t:=9) (by kernel_rfl) h1;obtain⟨x2,r2,o2,b2,w2⟩:=Zw (t:=3) (k:= .i64) (by kernel_rfl) h2;obtain⟨x3,r3,o3,b3,w3⟩:=WK (t:=25) (e:=9) (sz:=1) (enc:=nB) (bk:=(fun m:Str=>m.length+1)) (wf:=(fun _=>True)) (by kernel_rfl) (by kernel_rfl) (by decide) (fun _=>rfl) (fun k hk cs x h=>ae9 (t:=9) (by kernel_rfl) h) h3;obtain⟨x4,r4,o4,b4,w4⟩:=WK (t:=26) (e:=80) (sz:=2) (enc:=j7.cells) (bk:=j7.vI) (wf:=j7.wf) (by kernel_rfl) (by kernel_rfl) (by decide) j7.length (fun k hk cs x h=>j7.read k cs x h) h4;obtain⟨x5,r5,o5,b5,w5⟩:=WK (t:=27) (e:=29) (sz:=8) (enc:=Syntax.cells) (bk:=Syntax.vI) (wf:=Syntax.wf) (by kernel_rfl) (by kernel_rfl) (by decide) Syntax.length (fun k hk cs x h=>Syntax.read k cs x h) h5;obtain⟨x6,r6,o6,b6,w6⟩:=Zw (t:=3) (k:= .i64) (by kernel_rfl) h6;obtain⟨x7,r7,o7,b7,w7⟩:=Zw (t:=3) (k:= .i64) (by kernel_rfl) h7;have b0:1<=Rows.uptoBulk y0.1:=b0;have b1:(x1.length+1)<=Rows.uptoBulk y1.1:=b1;have b2:1<=Rows.uptoBulk y2.1:=b2;have b3:E7 (fun m:Str=>m.length+1) x3<=Rows.uptoBulk y3.1:=b3;have b4:E7 j7.vI x4<=Rows.uptoBulk y4.1:=b4;have b5:E7 Syntax.vI x5<=Rows.uptoBulk y5.1:=b5;have b6:1<=Rows.uptoBulk y6.1:=b6;have b7:1<=Rows.uptoBulk y7.1:=b7;refine⟨.mk x0 x1 x2 x3 x4 x5 x6 x7,?_,?_,?_,?_⟩
   ·have hr:=(ur r0 (ur r1 (ur r2 (ur r3 (ur r4 (ur r5 (ur r6 (ur r7 (adz hl)))))))));rw[fS] at hr;rw[Syntax.nA];simpa only[fZ,gb,gf,gh,Syntax.kind,Syntax.text,Syntax.num,Syntax.names,Syntax.levels,Syntax.kids,Syntax.from_,Syntax.to] using hr
   ·have ho:=(ut o0 (ut o1 (ut o2 (ut o3 (ut o4 (ut o5 (ut o6 (ut o7 (adA hl)))))))));rw[fS] at ho;exact ho
   ·rw[Syntax.awU];simp only[ga,gi,Rows.uptoBulk,Rows.uptoBulkAll];simp only[Syntax.kind,Syntax.text,Syntax.num,Syntax.names,Syntax.levels,Syntax.kids,Syntax.from_,Syntax.to];omega
   ·rw[Syntax.aBz];exact⟨w0,w1,w2,w3,w4,w5,w6,w7,trivial⟩
 termination_by n=>n
 decreasing_by all_goals omega
end
def jY.vI(x:jY):Nat:=E7 (fun m:Str=>m.length+1) x.parts+(1+(1+((x.target.length+1)+1)))
def jY.wf(x:jY):Prop:=(∀y∈x.parts,True)/\wfI .i64 x.level/\wfI .i64 x.BO/\True/\True
def jY.read: ∀(n:Nat)(cs:List Value)(x:DataW H×List MemPlace),fR en fT W 0 sp held n 53 cs=some x->ae8 fT W jY.cells jY.vI jY.wf cs x.1
 |n,cs,x,h=>by
  obtain⟨xs,m,hm,rfl,hl,hlen,hf⟩:=fY (fs:=Tryz.prog.fieldsOf 53) (by kernel_rfl) h;have hsz:Tryz.prog.cellsOf 53=4:=by kernel_rfl
  have hfs:(Tryz.prog.fieldsOf 53).size=4:=by kernel_rfl
  rw[hsz] at hl;rw[hfs] at hlen;have h0:=wK (i:=0) (ty:=25) (off:=0) (sz:=1) (by kernel_rfl) (by kernel_rfl) hf (by omega);have h1:=wK (i:=1) (ty:=3) (off:=1) (sz:=1) (by kernel_rfl) (by kernel_rfl) hf (by omega);have h2:=wK (i:=2) (ty:=3) (off:=2) (sz:=1) (by kernel_rfl) (by kernel_rfl) hf (by omega);have h3:=wK (i:=3) (ty:=9) (off:=3) (sz:=1) (by kernel_rfl) (by kernel_rfl) hf (by omega)
  match xs,hlen,h0,h1,h2,h3 with
  |[y0,y1,y2,y3],_,h0,h1,h2,h3=>
   obtain⟨x0,r0,o0,b0,w0⟩:=WK (t:=25) (e:=9) (sz:=1) (enc:=nB) (bk:=(fun m:Str=>m.length+1)) (wf:=(fun _=>True)) (by kernel_rfl) (by kernel_rfl) (by decide) (fun _=>rfl) (fun k hk cs x h=>ae9 (t:=9) (by kernel_rfl) h) h0;obtain⟨x1,r1,o1,b1,w1⟩:=Zw (t:=3) (k:= .i64) (by kernel_rfl) h1;obtain⟨x2,r2,o2,b2,w2⟩:=Zw (t:=3) (k:= .i64) (by kernel_rfl) h2;obtain⟨x3,r3,o3,b3,w3⟩:=ae9 (t:=9) (by kernel_rfl) h3;have b0:E7 (fun m:Str=>m.length+1) x0<=Rows.uptoBulk y0.1:=b0;have b1:1<=Rows.uptoBulk y1.1:=b1;have b2:1<=Rows.uptoBulk y2.1:=b2;have b3:(x3.length+1)<=Rows.uptoBulk y3.1:=b3;refine⟨⟨x0,x1,x2,x3⟩,?_,?_,?_,?_⟩
   ·have hr:=(ur r0 (ur r1 (ur r2 (ur r3 (adz hl)))));rw[fS] at hr;rw[jY.nA];simpa only[fZ,gb,gf,gh] using hr
   ·have ho:=(ut o0 (ut o1 (ut o2 (ut o3 (adA hl)))));rw[fS] at ho;exact ho
   ·simp only[ga,gi,Rows.uptoBulk,Rows.uptoBulkAll,jY.vI];omega
   ·exact⟨w0,w1,w2,w3,trivial⟩
open Go.Proofs Go.Proofs.YtdkeelhebopgkaaGreatDoor Go.RowKit
section
variable {enc:TypeId×Value->H}
def ags{a:Assume}{C:Checked}{os:Os}{fn:Func}{s:OpenSpec}{k:(H:Type)->List (DataW H)->Bool}(hk:s.cond=some k){F:Stop.Interp}{conds:List PathCond}{apart fresh again:Bool}
 (own:ownKnob C.prog.godebug=none) (started:os.Started) (noInit:C.prog.inits.idxOf? f=none) (hfn:C.prog.funcs[f]? =some fn)
 (witness: ∃(w:World)(tape:Tape)(i:Input),w.os=os/\(w.forCall tape i).Shaped C.prog/\i.vars=[]/\Input.okWide C.prog (w.forCall tape i) .any w.heap.size f i/\
   s.pre6 enc C.prog fn conds apart (w.forCall tape i).memory i.args/\a.holds C.prog (lone (Frame.enter C.prog f i.args .normal) [] (w.forCall tape i)))
 (contract: ∀(W:World)(base:Nat)(args:Array Value)(ds gs:List (DataW H))(before:List MemPlace),
   (∀(j:Nat) t v,fn.params[j]? =some t->args[j]? =some v->fU C.prog W .any base t v)->
   DataW.Whole enc C.prog fn.params.toList s.vars apart W args.toList ds gs before->
   conds.all (PathCond.test C.prog ⟨fn.params.toList,ds,s.bare.plain.varTypes C.prog,gs⟩)=true->k H (ds++gs)=true->W.ShapedOpen C.prog->
   Calls C.prog f args W fun e W'=> ∃v,e= .returned v/\(s.at F).post enc C.prog fn apart fresh handsOn again W args v W'):
 ReturnsInHanded a C os f .any (s.pre6 enc C.prog fn conds apart) ((s.at F).post enc C.prog fn apart fresh handsOn again):=by
 refine returnsInHanded_of_calls own started noInit witness ?_;intro w tape i _ hsh _ hok hpre hholds;obtain⟨_,_,_,fn',aDa,_,_,_,_,hval⟩:=hok;have e:fn'=fn:=Option.some.inj (aDa.symm.trans hfn);subst e;obtain⟨ds,gs,before,hw,hc,hkk⟩:=(OpenSpec.pre_some hk conds apart _ _).1 hpre.1;have hw':=DataW.Whole.of_heap (w':=w.forCall tape i) (by rfl) hw;refine(contract (w.forCall tape i) w.heap.size i.args ds gs before hval hw' hc hkk hsh).mono fun e W' ⟨v,he,hp⟩=> ?_
 subst he;exact ChangeSpec.post_blind hp
end
section
variable {P:Program} {W':World}
def apl(W W':World):Prop:=W.heap.size<=W'.heap.size/\(∀b,b<W.heap.size->W'.heap[b]? =W.heap[b]?)/\(∀x,x.block<W.heap.size->W'.frozen? x=W.frozen? x)/\W'.output=W.output/\W'.os=W.os
def awV(hk:ajl W (fun _ _=>False)){args:List AV}{X:AV}{vs:Array Value}(h:IR P f args (fun r=>r=X))(hr:kC (aiP P W) args vs.toList):
 Calls P f vs W fun e W'=> ∃v φ',e= .returned v/\n8 ((aBy P W hk).env φ' [] W') X v/\apl W W':=by
 refine(h.2.2 (aBy P W hk) (fun _=>undef) W rfl rfl rfl (fun _ _ h=>h) vs hr).mono ?_;rintro e W' ⟨r,v,φ',rfl,he,rF,h1,h2,h3,h4,h5⟩;exact⟨v,φ',he,rF,h1,h2,h3,h4,h5⟩
def apl.kept(h:apl W W')(may:MemPlace->Prop):W.keptBut W' may:=by
 obtain⟨h1,h2,h3,h4,h5⟩:=h;refine⟨h5,h4,fun i hi=> ?_⟩;rw[h2 i hi];cases W.heap[i]? with
 |none=>rfl
 |some o=>
  cases o with
  |cells c t fr=>exact⟨rfl,rfl,rfl,fun _ _=>rfl⟩
  |map es clock=>exact .inr ⟨rfl,rfl⟩
  |_=>rfl
def auY{enc:TypeId×Value->H}{f:Func}{s:ChangeSpec}{apart fresh again:Bool}{args:Array Value}{ds gs:List (DataW H)}{before pa pv:List MemPlace}
 (hW:DataW.Whole enc P f.params.toList s.vars apart W args.toList ds gs before)
 (hres: ∀(b:Nat)(sp:Nat->Bool)(hd:Bool),DataW.TrodAll enc P W' b sp hd f.resultTypes.toList (v.resultList f.resultTypes.size) (s.fn H (ds++gs)).results [])
 (hargs: ∀sp:Nat->Bool,(∀p∈before,sp p.block=true)->DataW.TrodAll enc P W' 0 sp true f.params.toList args.toList (s.fn H (ds++gs)).args pa)
 (hvars: ∀sp:Nat->Bool,(∀p∈before,sp p.block=true)->DataW.TrodVars enc P W' sp s.vars (s.fn H (ds++gs)).vars pv)
 (hps:before=pa++pv) (hk:W.keptBut W' (· ∈before)) (hfz: ∀a,a.block<W.heap.size->W'.frozen? a=W.frozen? a)
 (hok: ∀(j:Nat)(t:TypeId)(r:Value),f.resultTypes[j]? =some t->(v.resultList f.resultTypes.size)[j]? =some r->fU P W' .any 0 t r):
 s.post enc P f apart fresh handsOn again W args v W':=by
 have hold: ∀p∈before,(fun b=>decide (b<W.heap.size)) p.block=true:=fun p hp=>by simpa using hW.lt p hp
 have hlt:=hW.lt;refine⟨ds,gs,before,[],pa,pv,hW,hres _ _ _,hargs _ hold,hvars _ hold,World.keptBut_mono (fun p hp=>⟨hp,?_⟩) hk,fun _=> ?_⟩
 ·rw[hps,List.mem_append] at hp;exact Or.inr hp
 ·obtain⟨_,_,_,_,_,hz,hn⟩:=hW;refine⟨hok,_,_,([]++pa)++pv,⟨[]++pa,pv,Go.ChangeShapes.trodAll_append (hargs _ (fun _ _=>rfl)) (hres _ _ _),hvars _ (fun _ _=>rfl),rfl,?_,?_⟩,?_⟩
  ·intro b off hp;have hp':MemPlace.cell b off∈before:=by rw[hps];simpa using hp
   rw[hfz _ (hlt _ hp')];exact hz b off hp'
  ·intro ha;have:=hn ha;rw[hps] at this;simpa using this
  ·intro p hp _;rw[hps];simpa using hp
def az5(hl:laidOutB P=true)(hr:P.readableRec t=true)(hrow:t<P.types.size){d:DataW H}
 (h:gq en P W 0 (fun _=>true) true t v d ps) (hL:apl W W') (hs: ∀p∈ps,sp p.block=true):gq en P W' 0 sp true t v d ps:=by
 refine WideElems.Trod_stays hl hr hrow h (fun p hp=> ?_) hs;obtain⟨n,hn⟩:=h;have hb:=DataW.trod_lt n t _ _ hn p hp;cases p with
 |cell b off=>
  have hb':b<W.heap.size:=hb;show W'.cell? ⟨b,off,none⟩=W.cell? ⟨b,off,none⟩;simp only[World.cell?,hL.2.1 b hb']
 |map b=>exact hL.2.1 b hb
def azy{e:α->List AV}{wf:α->Prop}{d:DataW H}(ht:P.underlying t=some (.struct fs))(hval:fU P W .any base t v)
 (h:gq en P W 0 (fun _=>true) true t v d ps) (hread: ∀n cs x,fR en P W 0 (fun _=>true) true n t cs=some x->ae8 P W e bk wf cs x.1):
 ∃x,n8 (aiP P W) (.agg (e x)) v/\bk x<=Rows.uptoBulk d/\wf x:=by
 obtain⟨cs,rfl,_⟩:=WideShapes.okWide_struct ht hval;obtain⟨n,hn⟩:=h;obtain⟨x,hr,_,hb,hw⟩:=hread n _ _ hn;exact⟨x,⟨cs,rfl,hr⟩,hb,hw⟩
def aBA{e:α->AV}{wf:α->Prop}{d:DataW H}(hv:v.cells.toList=[v])
 (h:gq en P W 0 (fun _=>true) true t v d ps) (hread: ∀n cs x,fR en P W 0 (fun _=>true) true n t cs=some x->ae8 P W (fun x=>[e x]) bk wf cs x.1):
 ∃x,n8 (aiP P W) (e x) v/\bk x<=Rows.uptoBulk d/\wf x:=by
 obtain⟨n,hn⟩:=h;obtain⟨x,hr,_,hb,hw⟩:=hread n _ _ hn;rw[hv] at hr;obtain⟨u,us,he,h1,_⟩:=hr;simp only[List.cons.injEq] at he;obtain⟨rfl,_⟩:=he;exact⟨x,h1,hb,hw⟩
def aBB(ht:P.underlying t=some (.int k))(hval:fU P W .any base t v):v.cells.toList=[v]:=by
 obtain⟨n,rfl⟩:=WideShapes.okWide_int ht hval;rfl
def ax4(ht:P.underlying t=some .string)(hval:fU P W .any base t v):v.cells.toList=[v]:=by
 obtain⟨n,rfl⟩:=WideShapes.okWide_string ht hval;rfl
def az6(ht:P.underlying t=some .bool)(hval:fU P W .any base t v):v.cells.toList=[v]:=by
 obtain⟨n,rfl⟩:=WideShapes.okWide_bool ht hval;rfl
def azz {e:TypeId}(ht:P.underlying t=some (.slice e))(hval:fU P W .any base t v):v.cells.toList=[v]:=by
 obtain⟨a,l,c,rfl⟩:=WideShapes.okWide_slice ht hval;rfl
def azA(ht: ∀fs,P.underlying t≠some (.struct fs))(ht': ∀n e,P.underlying t≠some (.array n e))(hval:fU P W .any base t v)(hv: ∀cs,v≠ .agg cs):v.cells.toList=[v]:=by
 cases v<;>first|rfl|exact absurd rfl (hv _)
end
open Go.Proofs Go.Proofs.YtdkeelhebopgkaaGreatDoor Go.MakeChecks
def aDq(h:W.ShapedOpen fT)(hl:laidMetH fT Rows.parserSameRow.laid W):ajl W (fun _ _=>False):=by
 rintro b o (⟨rfl,rfl⟩|⟨rfl,ho⟩)
 ·obtain⟨m,hm⟩:=cell_of_shapedOpen_int (g:=1) (t:=3) (zero:= #[.int .i64 0]) (k:= .i64) h (of_decide_eq_true (by kernel_rfl)) (by kernel_rfl) rfl (by kernel_rfl) (by kernel_rfl) (by kernel_rfl);exact⟨_,hm,⟨fun _=>⟨m,rfl⟩,fun f=>by cases f⟩,fun f=>f⟩
 ·rw[laidMetH_plain _ _ _ (by kernel_rfl)] at hl;have hm:=(fV (fV (fV (fV (fV (fV (fV hl)))))));have e:(Rows.laid_strings_asciiSpace:DataW Unit)=Lib.tabData .u8 ((List.range 256).map adI):=by kernel_rfl
  rw[e] at hm;have ht:=Lib.tabIs_of_head (P:=fT) (g:=0) (t:=212) (e:=5) (n:=256) (by kernel_rfl) (by kernel_rfl) (by kernel_rfl) (by kernel_rfl) (by kernel_rfl) (by kernel_rfl) hm;have hc:=ht.cell (g:=0) (by kernel_rfl) o (by simpa using ho)
  have hz:((List.range 256).map adI).getD o 0=adI o:=by
   rw[List.getD_eq_getElem?_getD,List.getElem?_map,List.getElem?_range ho];rfl
  rw[hz] at hc;exact⟨_,hc,⟨fun f=>(by cases f),fun _=>rfl⟩,fun f=>f⟩
end Go.Abs
namespace Go.Proofs.YtdkeelhebopgkaaGreatDoor
open Go.RowKit
abbrev ax5:List (String×DataW Unit):=[("math/bits.deBruijn32tab",Rows.laid_math_bits_deBruijn32tab),("math/bits.deBruijn64tab",Rows.laid_math_bits_deBruijn64tab),("internal/strconv.uint64pow10",Rows.laid_internal_strconv_uint64pow10),("unicode/utf8.acceptRanges",Rows.laid_unicode_utf8_acceptRanges),("strconv.ErrRange",Rows.laid_strconv_ErrRange),("strconv.ErrSyntax",Rows.laid_strconv_ErrSyntax),("unicode.White_Space",Rows.laid_unicode_White_Space),("strings.asciiSpace",Rows.laid_strings_asciiSpace),("unicode/utf8.first",Rows.laid_unicode_utf8_first)]
noncomputable def ahl (os:Os):World:=World.laidAll fT os ax5
def awW(os:Os):(ahl os).os=os:=World.laidAll_os _ _ _
def aBC(os:Os)(args:Array Value):laidMet fT ax5 ((ahl os).forCall (fun _ _=>0) ⟨#[],args,[]⟩).memory:=
 laidMet_laidAll args (by kernel_rfl) (by kernel_rfl)
end Go.Proofs.YtdkeelhebopgkaaGreatDoor
