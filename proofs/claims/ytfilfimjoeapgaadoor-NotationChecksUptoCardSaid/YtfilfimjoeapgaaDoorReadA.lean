/- A part of the proof: reading of arguments. -/
import Derived.Test.YtfilfimjoeapgaaDoorDataA
import Derived.Test.YtfilfimjoeapgaaDoorRows
import Derived.ChangeArms
import Derived.WalkKit
import Derived.ProofKit
import Derived.OpenShut
import Derived.JoinedCond
import Derived.WideKeyArgs
import Derived.Carry
import Derived.Test.YtfilfimjoeapgaaDoorCoreA
import Derived.Shelf.Vars
import Derived.Stop.LaidErr
import Derived.MakeChecks
import Derived.Lib.LaidTab
import Derived.Test.YtfilfimjoeapgaaDoorCards
import Derived.Test.YtfilfimjoeapgaaDoorTie
import Derived.Deep.DeepHandedRow
import Derived.Lay
import Derived.Deep.DeepWitnessRowRef
import Derived.Test.YtfilfimjoeapgaaDoorWalkA
import Derived.Test.YtfilfimjoeapgaaDoorWalkB
import Derived.Test.YtfilfimjoeapgaaDoorWalkC
import Derived.Test.YtfilfimjoeapgaaDoorWalkD
import Derived.Test.YtfilfimjoeapgaaDoorWalkE
set_option linter.all false
open List renaming drop_zero → j8,append_assoc → kf,cons_append → kg,nil_append → kj,append_nil → ko,map_cons → kq,map_nil → ku,getElem?_eq_getElem → kA,drop_of_length_le → kC,take_append_drop → kD
open Go.DataW renaming trod → j9,trod_struct → ke,Trod → kE
open Go.Value renaming okWide → kr,oneCell' → kB
namespace Go.Abs
open Go.Proofs.YtfilfimjoeapgaaDoor
def ctx0 (P:Program) (W:World) (hk:Xs W (fun _ _=>False)):Ctx:={P,w0:=W,M0:=fun _ _=>False,A:=fun _ _=>False,hA:=fun _ _ h=>h.elim,hk}
def W6 (P:Program) (W:World):Env:={w:=W,mu:=fun b o=>Ck (fun _=>undef) [] b o∨False,φ:=fun _=>undef,ln:=fun l=>oR ([]:List AObj)[l]?,n:=0}
theorem env0_mu {P:Program} {W:World} (b o:Nat): ¬ (W6 P W).mu b o:=by
 simp only[W6]
 rintro (⟨l,x,hx,_⟩|h)
 ·simp at hx
 ·exact h
section
variable {H:Type} {en:TypeId×Value→H} {P:Program} {W:World} {sp:Nat→Bool} {held:Bool}
def Uf (k:IntKind) (n:Int):Prop:=(Lit.int k n).wf=true
theorem wfI_i64 {n:Int} (h:Uf .i64 n): -9223372036854775808≤n∧n≤9223372036854775807:=by
 simpa [Uf,Lit.wf,IntKind.min,IntKind.max,IntKind.signed,IntKind.bits] using h
theorem wfI_u8 {n:Int} (h:Uf .u8 n):0≤n∧n≤255:=by
 simpa [Uf,Lit.wf,IntKind.min,IntKind.max,IntKind.signed,IntKind.bits] using h
def ON (P:Program) (W:World) {α:Type} (e:α→List AV) (bk:α→Nat) (wf:α→Prop) (cs:List Value) (d:DataW H):Prop:=
 ∃x,m7 (W6 P W) (e x) cs∧(∀u∈cs,u.oneCell'=true)∧bk x≤Rows.uptoBulk d∧wf x
theorem Gm {t:TypeId} {k:IntKind} {n:Nat} {cs:List Value} {x:DataW H×List MemPlace} (ht:P.underlying t=some (.int k)) (h:j9 en P W 0 sp held n t cs=some x):
 ON P W (fun m:Int=>[.int k m]) (fun _=>1) (Uf k) cs x.1:=by
 obtain ⟨m,rfl,rfl,hw⟩:=DataW.trod_int ht h
 exact ⟨m,⟨_,[],rfl,rfl,rfl⟩,by simp [kB],by simp [Rows.uptoBulk],hw⟩
theorem rd_bool {t:TypeId} {n:Nat} {cs:List Value} {x:DataW H×List MemPlace} (ht:P.underlying t=some .bool) (h:j9 en P W 0 sp held n t cs=some x):
 ON P W (fun m:Bool=>[.bool m]) (fun _=>1) (fun _=>True) cs x.1:=by
 obtain ⟨m,rfl,rfl⟩:=DataW.trod_bool ht h
 exact ⟨m,⟨_,[],rfl,rfl,rfl⟩,by simp [kB],by simp [Rows.uptoBulk],trivial⟩
theorem TH {t:TypeId} {n:Nat} {cs:List Value} {x:DataW H×List MemPlace} (ht:P.underlying t=some .string) (h:j9 en P W 0 sp held n t cs=some x):
 ON P W (fun m:Str=>[.str (sb m)]) (fun m=>m.length+1) (fun _=>True) cs x.1:=by
 obtain ⟨s,rfl,rfl,_⟩:=DataW.trod_string ht h
 exact ⟨s.data.toList,⟨_,[],rfl,by rw[Wz];rfl,rfl⟩,by simp [kB],by simp [Rows.uptoBulk],trivial⟩
def sumB {α:Type} (bk:α→Nat):List α→Nat
 |[]=>1
 |x::xs=>bk x+sumB bk xs
theorem TI {α:Type} {bk:α→Nat}: ∀xs:List α,1≤sumB bk xs
 |[]=>Nat.le_refl _
 |_::xs=>by have:=TI (bk:=bk) xs;simp only[sumB];omega
theorem VI {b:Nat}: ∀ {cs:List AV} {vs:List Value} {off:Nat},m7 (W6 P W) cs vs→(∀u∈vs,u.oneCell'=true)→(∀j u,vs[j]? =some u→W.cell? ⟨b,off+j,none⟩=some u)→qD (W6 P W) b off cs
 |[],_,_,_,_,_=>trivial
 |c::cs,_,off,⟨u,us,rfl,r1,r2⟩,h1,h2=>by
  refine ⟨⟨env0_mu b off,u,h2 0 u (by simp),h1 u (by simp),r1⟩,VI r2 (fun v hv=>h1 v (by simp [hv])) (fun j v hj=> ?_)⟩
  rw[←h2 (j+1) v (by simpa using hj)];congr 2;omega
theorem F2 {α:Type} {t e:TypeId} {sz:Nat} {enc:α→List AV} {bk:α→Nat} {wf:α→Prop} (ht:P.underlying t=some (.slice e)) (hsz:P.cellsOf e=sz) (hpos:0<sz) (hl: ∀x,(enc x).length=sz)
 {n:Nat} (ih: ∀m,m<n→ ∀cs x,j9 en P W 0 sp held m e cs=some x→ON P W enc bk wf cs x.1) {cs:List Value} {x:DataW H×List MemPlace} (h:j9 en P W 0 sp held n t cs=some x):
 ON P W (fun xs:List α=>[.nE false sz (mp enc xs)]) (sumB bk) (fun xs=> ∀y∈xs,wf y) cs x.1:=by
 rcases DataW.trod_slice ht h with ⟨rfl,rfl⟩|⟨a,len,cap,elems,rest,m,hm,rfl,rfl,hb,hlc,hmx,hlen,hel,hsp,hns⟩
 ·refine ⟨[],⟨_,[],rfl,?_,rfl⟩,by simp [kB],by simp [Rows.uptoBulk,sumB],by simp⟩
  rw[uc]
  exact ⟨none,0,rfl,Nat.le_refl _,(by intro h;cases h),fun _=>rfl,(by intro a h;cases h),(by intro a h;cases h)⟩
 ·subst hsz
  have key: ∀ (k i:Nat),i+k=len→ ∃xs:List α,xs.length=k∧qm (W6 P W) (P.cellsOf e) a.block (a.off+i*P.cellsOf e) (mp enc xs)∧sumB bk xs≤Rows.uptoBulkAll ((elems.drop i).map (·.1))+1∧(∀y∈xs,wf y)∧(0<k→i=0→a.spot=none):=by
   intro k
   induction k with
   |zero=>
    intro i hi
    refine ⟨[],rfl,by rw[uc];trivial,?_,by simp,by omega⟩
    simp [sumB]
   |succ k ihk=>
    intro i hi
    obtain ⟨xs,hxl,hrows,hbulk,hwf,_⟩:=ihk (i+1) (by omega)
    have hi':i<elems.length:=by omega
    have he:=hel i (by omega)
    rw[kA hi'] at he
    obtain ⟨vs,hvs,htr⟩:=Option.bind_eq_some_iff.1 he
    obtain ⟨y,hy,h1,hbk,hw⟩:=ih m (by omega) vs _ htr
    obtain ⟨_,hvl,hcell⟩:=World.cells?_some hvs
    have VJ:(a.add (i*P.cellsOf e)).spot=none:=by
     have h0:=hcell 0 hpos
     have hv0:vs[0]? =some vs[0]:=kA (by omega)
     rw[hv0] at h0
     unfold World.cell? at h0
     have:(a.add (i*P.cellsOf e)).add 0=a.add (i*P.cellsOf e):=by unfold Addr.add;simp
     rw[this] at h0
     split at h0
     ·split at h0
      ·cases h0
      ·rename_i hs;simpa using hs
     ·cases h0
    have hadd:a.add (i*P.cellsOf e)=⟨a.block,a.off+i*P.cellsOf e,none⟩:=by
     unfold Addr.add at VJ ⊢
     split
     ·rename_i h0
      rw[if_pos h0] at VJ
      cases a;simp_all
     ·rfl
    refine ⟨y::xs,by simp [hxl],?_,?_,?_,?_⟩
    ·rw[uc] at hrows ⊢
     refine ⟨hl y,VI hy h1 (fun j u hj=> ?_),?_⟩
     ·have hj':j<P.cellsOf e:=by rw[←hvl];exact (List.getElem?_eq_some_iff.1 hj).1
      have:=hcell j hj'
      rw[hj,hadd,add_plain] at this
      exact this
     ·have e2:a.off+i*P.cellsOf e+P.cellsOf e=a.off+(i+1)*P.cellsOf e:=by rw[Nat.add_mul];omega
      rw[e2];exact hrows
    ·have e3:elems.drop i=elems[i]::elems.drop (i+1):=List.drop_eq_getElem_cons hi'
     rw[e3]
     simp only[kq,Rows.uptoBulkAll,sumB]
     omega
    ·intro z hz
     simp only[List.mem_cons] at hz
     rcases hz with rfl|hz
     ·exact hw
     ·exact hwf z hz
    ·intro _ h0
     subst h0
     rw[Nat.zero_mul] at VJ
     simpa [Addr.add] using VJ
  obtain ⟨xs,hxl,hrows,hbulk,hwf,VJ⟩:=key len 0 (by omega)
  refine ⟨xs,⟨_,[],rfl,?_,rfl⟩,by simp [kB],?_,hwf⟩
  ·refine ⟨some a,cap,by rw[GL,hxl],by rw[GL,hxl];exact hlc,(by intro h;cases h),(by intro h;cases h),?_,?_⟩
   ·intro a' ha hne
    cases ha
    have:0<len:=by
     rw[←hxl,←GL enc xs]
     exact List.length_pos_iff.2 hne
    exact VJ this rfl
   ·intro a' ha
    cases ha
    simpa using hrows
  ·simp only[j8] at hbulk
   simp only[Rows.uptoBulk]
   omega
theorem fld {fs:Array Field} {i:Nat} {ty off:Nat} (h:(fs[i]?).map (fun f=>(f.type,f.offset))=some (ty,off)): ∃f,fs[i]? =some f∧f.type=ty∧f.offset=off:=by
 cases hf:fs[i]? with
 |none=>rw[hf] at h;cases h
 |some f=>rw[hf] at h;cases h;exact ⟨f,rfl,rfl,rfl⟩
theorem tv {fs:Array Field} {i:Nat} {ty off:Nat} {m sz:Nat} {cs:List Value} {xs:List (DataW H×List MemPlace)} (h:(fs[i]?).map (fun f=>(f.type,f.offset))=some (ty,off)) (hsz:P.cellsOf ty=sz)
 (hf: ∀ (i:Nat) (f:Field),fs[i]? =some f→j9 en P W 0 sp held m f.type ((cs.drop f.offset).take (P.cellsOf f.type))=xs[i]?) (hi:i<xs.length):j9 en P W 0 sp held m ty ((cs.drop off).take sz)=some xs[i]:=by
 obtain ⟨f,h1,rfl,rfl⟩:=fld h
 rw[←hsz,hf i f h1,kA hi]
theorem r9 {E:Env} {cs:List Value} {a b:List AV} {o s:Nat} (h1:m7 E a ((cs.drop o).take s)) (h2:m7 E b (cs.drop (o+s))):m7 E (a++b) (cs.drop o):=by
 have:=m7.append h1 h2
 rw[←List.drop_drop,kD] at this
 exact this
theorem sj {cs:List Value} {o s:Nat} (h1: ∀u∈(cs.drop o).take s,u.oneCell'=true) (h2: ∀u∈cs.drop (o+s),u.oneCell'=true): ∀u∈cs.drop o,u.oneCell'=true:=by
 intro u hu
 rw[←kD s (cs.drop o),List.mem_append,List.drop_drop] at hu
 rcases hu with hu|hu
 ·exact h1 u hu
 ·exact h2 u hu
theorem KM {E:Env} {cs:List Value} {o:Nat} (h:cs.length=o):m7 E [] (cs.drop o):=by
 rw[kC (by omega)];rfl
theorem KN {cs:List Value} {o:Nat} (h:cs.length=o): ∀u∈cs.drop o,u.oneCell'=true:=by
 rw[kC (by omega)];simp
end
end Go.Abs
namespace Go.Abs
open Go.Proofs
open Go.Proofs.YtfilfimjoeapgaaDoor
set_option maxRecDepth 100000
def Notation.bulk (x:Notation):Nat:=sumB (fun m:Str=>m.length+1) x.parts+(1+(1+((x.target.length+1)+1)))
def Notation.wf (x:Notation):Prop:=(∀y∈x.parts,True)∧Uf .i64 x.level∧Uf .i64 x.assoc∧True∧True
theorem Notation.read {H:Type} {en:TypeId×Value→H} {W:World} {sp:Nat→Bool} {held:Bool}: ∀ (n:Nat) (cs:List Value) (x:DataW H×List MemPlace),j9 en Tryd.prog W 0 sp held n 24 cs=some x→ON Tryd.prog W Notation.cells Notation.bulk Notation.wf cs x.1
 |n,cs,x,h=>by
  obtain ⟨xs,m,hm,rfl,hl,hlen,hf⟩:=ke (fs:=Tryd.prog.fieldsOf 24) (by kernel_rfl) h
  have hsz:Tryd.prog.cellsOf 24=4:=by kernel_rfl
  have hfs:(Tryd.prog.fieldsOf 24).size=4:=by kernel_rfl
  rw[hsz] at hl
  rw[hfs] at hlen
  have h0:=tv (i:=0) (ty:=22) (off:=0) (sz:=1) (by kernel_rfl) (by kernel_rfl) hf (by omega)
  have h1:=tv (i:=1) (ty:=3) (off:=1) (sz:=1) (by kernel_rfl) (by kernel_rfl) hf (by omega)
  have h2:=tv (i:=2) (ty:=3) (off:=2) (sz:=1) (by kernel_rfl) (by kernel_rfl) hf (by omega)
  have h3:=tv (i:=3) (ty:=9) (off:=3) (sz:=1) (by kernel_rfl) (by kernel_rfl) hf (by omega)
  match xs,hlen,h0,h1,h2,h3 with
  |[y0,y1,y2,y3],_,h0,h1,h2,h3=>
   obtain ⟨x0,r0,o0,b0,w0⟩:=F2 (t:=22) (e:=9) (sz:=1) (enc:=n4) (bk:=(fun m:Str=>m.length+1)) (wf:=(fun _=>True)) (by kernel_rfl) (by kernel_rfl) (by decide) (fun _=>rfl) (fun k hk cs x h=>TH (t:=9) (by kernel_rfl) h) h0
   obtain ⟨x1,r1,o1,b1,w1⟩:=Gm (t:=3) (k:= .i64) (by kernel_rfl) h1
   obtain ⟨x2,r2,o2,b2,w2⟩:=Gm (t:=3) (k:= .i64) (by kernel_rfl) h2
   obtain ⟨x3,r3,o3,b3,w3⟩:=TH (t:=9) (by kernel_rfl) h3
   have b0:sumB (fun m:Str=>m.length+1) x0≤Rows.uptoBulk y0.1:=b0
   have b1:1≤Rows.uptoBulk y1.1:=b1
   have b2:1≤Rows.uptoBulk y2.1:=b2
   have b3:(x3.length+1)≤Rows.uptoBulk y3.1:=b3
   refine ⟨⟨x0,x1,x2,x3⟩,?_,?_,?_,?_⟩
   ·have hr:=(r9 r0 (r9 r1 (r9 r2 (r9 r3 (KM hl)))))
    rw[j8] at hr
    rw[Notation.rH]
    simpa only[kf,kg,kj,ko] using hr
   ·have ho:=(sj o0 (sj o1 (sj o2 (sj o3 (KN hl)))))
    rw[j8] at ho
    exact ho
   ·simp only[kq,ku,Rows.uptoBulk,Rows.uptoBulkAll,Notation.bulk]
    omega
   ·exact ⟨w0,w1,w2,w3,trivial⟩
def mT.bulk (x:mT):Nat:=(x.name.length+1)+(1+1)
def mT.wf (x:mT):Prop:=True∧Uf .i64 x.plus∧True
theorem mT.read {H:Type} {en:TypeId×Value→H} {W:World} {sp:Nat→Bool} {held:Bool}: ∀ (n:Nat) (cs:List Value) (x:DataW H×List MemPlace),j9 en Tryd.prog W 0 sp held n 122 cs=some x→ON Tryd.prog W mT.cells mT.bulk mT.wf cs x.1
 |n,cs,x,h=>by
  obtain ⟨xs,m,hm,rfl,hl,hlen,hf⟩:=ke (fs:=Tryd.prog.fieldsOf 122) (by kernel_rfl) h
  have hsz:Tryd.prog.cellsOf 122=2:=by kernel_rfl
  have hfs:(Tryd.prog.fieldsOf 122).size=2:=by kernel_rfl
  rw[hsz] at hl
  rw[hfs] at hlen
  have h0:=tv (i:=0) (ty:=9) (off:=0) (sz:=1) (by kernel_rfl) (by kernel_rfl) hf (by omega)
  have h1:=tv (i:=1) (ty:=3) (off:=1) (sz:=1) (by kernel_rfl) (by kernel_rfl) hf (by omega)
  match xs,hlen,h0,h1 with
  |[y0,y1],_,h0,h1=>
   obtain ⟨x0,r0,o0,b0,w0⟩:=TH (t:=9) (by kernel_rfl) h0
   obtain ⟨x1,r1,o1,b1,w1⟩:=Gm (t:=3) (k:= .i64) (by kernel_rfl) h1
   have b0:(x0.length+1)≤Rows.uptoBulk y0.1:=b0
   have b1:1≤Rows.uptoBulk y1.1:=b1
   refine ⟨⟨x0,x1⟩,?_,?_,?_,?_⟩
   ·have hr:=(r9 r0 (r9 r1 (KM hl)))
    rw[j8] at hr
    rw[mT.rH]
    simpa only[kf,kg,kj,ko] using hr
   ·have ho:=(sj o0 (sj o1 (KN hl)))
    rw[j8] at ho
    exact ho
   ·simp only[kq,ku,Rows.uptoBulk,Rows.uptoBulkAll,mT.bulk]
    omega
   ·exact ⟨w0,w1,trivial⟩
def mP.bulk (x:mP):Nat:=1+(sumB mT.bulk x.atoms+1)
def mP.wf (x:mP):Prop:=True∧(∀y∈x.atoms,y.wf)∧True
theorem mP.read {H:Type} {en:TypeId×Value→H} {W:World} {sp:Nat→Bool} {held:Bool}: ∀ (n:Nat) (cs:List Value) (x:DataW H×List MemPlace),j9 en Tryd.prog W 0 sp held n 120 cs=some x→ON Tryd.prog W mP.cells mP.bulk mP.wf cs x.1
 |n,cs,x,h=>by
  obtain ⟨xs,m,hm,rfl,hl,hlen,hf⟩:=ke (fs:=Tryd.prog.fieldsOf 120) (by kernel_rfl) h
  have hsz:Tryd.prog.cellsOf 120=2:=by kernel_rfl
  have hfs:(Tryd.prog.fieldsOf 120).size=2:=by kernel_rfl
  rw[hsz] at hl
  rw[hfs] at hlen
  have h0:=tv (i:=0) (ty:=4) (off:=0) (sz:=1) (by kernel_rfl) (by kernel_rfl) hf (by omega)
  have h1:=tv (i:=1) (ty:=118) (off:=1) (sz:=1) (by kernel_rfl) (by kernel_rfl) hf (by omega)
  match xs,hlen,h0,h1 with
  |[y0,y1],_,h0,h1=>
   obtain ⟨x0,r0,o0,b0,w0⟩:=rd_bool (t:=4) (by kernel_rfl) h0
   obtain ⟨x1,r1,o1,b1,w1⟩:=F2 (t:=118) (e:=122) (sz:=2) (enc:=mT.cells) (bk:=mT.bulk) (wf:=mT.wf) (by kernel_rfl) (by kernel_rfl) (by decide) mT.length (fun k hk cs x h=>mT.read k cs x h) h1
   have b0:1≤Rows.uptoBulk y0.1:=b0
   have b1:sumB mT.bulk x1≤Rows.uptoBulk y1.1:=b1
   refine ⟨⟨x0,x1⟩,?_,?_,?_,?_⟩
   ·have hr:=(r9 r0 (r9 r1 (KM hl)))
    rw[j8] at hr
    rw[mP.rH]
    simpa only[kf,kg,kj,ko] using hr
   ·have ho:=(sj o0 (sj o1 (KN hl)))
    rw[j8] at ho
    exact ho
   ·simp only[kq,ku,Rows.uptoBulk,Rows.uptoBulkAll,mP.bulk]
    omega
   ·exact ⟨w0,w1,trivial⟩
mutual
def Syntax.bulk:Syntax→Nat
 | .mk kind text num names levels kids from_ to=>1+((text.length+1)+(1+(sumB (fun m:Str=>m.length+1) names+(sumB mP.bulk levels+(Syntax.bulkL kids+(1+(1+1)))))))
def Syntax.bulkL:List Syntax→Nat
 |[]=>1
 |x::xs=>x.bulk+Syntax.bulkL xs
end
mutual
def Syntax.wf:Syntax→Prop
 | .mk kind text num names levels kids from_ to=>Uf .i64 kind∧True∧Uf .i64 num∧(∀y∈names,True)∧(∀y∈levels,y.wf)∧Syntax.wfL kids∧Uf .i64 from_∧Uf .i64 to∧True
def Syntax.wfL:List Syntax→Prop
 |[]=>True
 |x::xs=>x.wf∧Syntax.wfL xs
end
theorem Syntax.bulkL_eq: ∀xs,Syntax.bulkL xs=sumB Syntax.bulk xs
 |[]=>by simp only[Syntax.bulkL,sumB]
 |x::xs=>by simp only[Syntax.bulkL,sumB,Syntax.bulkL_eq xs]
theorem Syntax.wfL_eq: ∀xs,Syntax.wfL xs↔ ∀y∈xs,Syntax.wf y
 |[]=>by simp [Syntax.wfL]
 |x::xs=>by simp [Syntax.wfL,Syntax.wfL_eq xs]
theorem Syntax.bulk_eq (x:Syntax):x.bulk=1+((x.text.length+1)+(1+(sumB (fun m:Str=>m.length+1) x.names+(sumB mP.bulk x.levels+(sumB Syntax.bulk x.kids+(1+(1+1))))))):=by
 cases x
 simp only[Syntax.bulk,Syntax.bulkL_eq]
 rfl
theorem Syntax.wf_eq (x:Syntax):x.wf↔(Uf .i64 x.kind∧True∧Uf .i64 x.num∧(∀y∈x.names,True)∧(∀y∈x.levels,y.wf)∧(∀y∈x.kids,y.wf)∧Uf .i64 x.from_∧Uf .i64 x.to∧True):=by
 cases x
 simp only[Syntax.wf,Syntax.wfL_eq]
 exact Iff.rfl
mutual
theorem Syntax.read {H:Type} {en:TypeId×Value→H} {W:World} {sp:Nat→Bool} {held:Bool}: ∀ (n:Nat) (cs:List Value) (x:DataW H×List MemPlace),j9 en Tryd.prog W 0 sp held n 36 cs=some x→ON Tryd.prog W Syntax.cells Syntax.bulk Syntax.wf cs x.1
 |n,cs,x,h=>by
  obtain ⟨xs,m,hm,rfl,hl,hlen,hf⟩:=ke (fs:=Tryd.prog.fieldsOf 36) (by kernel_rfl) h
  have hsz:Tryd.prog.cellsOf 36=8:=by kernel_rfl
  have hfs:(Tryd.prog.fieldsOf 36).size=8:=by kernel_rfl
  rw[hsz] at hl
  rw[hfs] at hlen
  have h0:=tv (i:=0) (ty:=3) (off:=0) (sz:=1) (by kernel_rfl) (by kernel_rfl) hf (by omega)
  have h1:=tv (i:=1) (ty:=9) (off:=1) (sz:=1) (by kernel_rfl) (by kernel_rfl) hf (by omega)
  have h2:=tv (i:=2) (ty:=3) (off:=2) (sz:=1) (by kernel_rfl) (by kernel_rfl) hf (by omega)
  have h3:=tv (i:=3) (ty:=22) (off:=3) (sz:=1) (by kernel_rfl) (by kernel_rfl) hf (by omega)
  have h4:=tv (i:=4) (ty:=34) (off:=4) (sz:=1) (by kernel_rfl) (by kernel_rfl) hf (by omega)
  have h5:=tv (i:=5) (ty:=32) (off:=5) (sz:=1) (by kernel_rfl) (by kernel_rfl) hf (by omega)
  have h6:=tv (i:=6) (ty:=3) (off:=6) (sz:=1) (by kernel_rfl) (by kernel_rfl) hf (by omega)
  have h7:=tv (i:=7) (ty:=3) (off:=7) (sz:=1) (by kernel_rfl) (by kernel_rfl) hf (by omega)
  match xs,hlen,h0,h1,h2,h3,h4,h5,h6,h7 with
  |[y0,y1,y2,y3,y4,y5,y6,y7],_,h0,h1,h2,h3,h4,h5,h6,h7=>
   obtain ⟨x0,r0,o0,b0,w0⟩:=Gm (t:=3) (k:= .i64) (by kernel_rfl) h0
   obtain ⟨x1,r1,o1,b1,w1⟩:=TH (t:=9) (by kernel_rfl) h1
   obtain ⟨x2,r2,o2,b2,w2⟩:=Gm (t:=3) (k:= .i64) (by kernel_rfl) h2
   obtain ⟨x3,r3,o3,b3,w3⟩:=F2 (t:=22) (e:=9) (sz:=1) (enc:=n4) (bk:=(fun m:Str=>m.length+1)) (wf:=(fun _=>True)) (by kernel_rfl) (by kernel_rfl) (by decide) (fun _=>rfl) (fun k hk cs x h=>TH (t:=9) (by kernel_rfl) h) h3
   obtain ⟨x4,r4,o4,b4,w4⟩:=F2 (t:=34) (e:=120) (sz:=2) (enc:=mP.cells) (bk:=mP.bulk) (wf:=mP.wf) (by kernel_rfl) (by kernel_rfl) (by decide) mP.length (fun k hk cs x h=>mP.read k cs x h) h4
   obtain ⟨x5,r5,o5,b5,w5⟩:=F2 (t:=32) (e:=36) (sz:=8) (enc:=Syntax.cells) (bk:=Syntax.bulk) (wf:=Syntax.wf) (by kernel_rfl) (by kernel_rfl) (by decide) Syntax.length (fun k hk cs x h=>Syntax.read k cs x h) h5
   obtain ⟨x6,r6,o6,b6,w6⟩:=Gm (t:=3) (k:= .i64) (by kernel_rfl) h6
   obtain ⟨x7,r7,o7,b7,w7⟩:=Gm (t:=3) (k:= .i64) (by kernel_rfl) h7
   have b0:1≤Rows.uptoBulk y0.1:=b0
   have b1:(x1.length+1)≤Rows.uptoBulk y1.1:=b1
   have b2:1≤Rows.uptoBulk y2.1:=b2
   have b3:sumB (fun m:Str=>m.length+1) x3≤Rows.uptoBulk y3.1:=b3
   have b4:sumB mP.bulk x4≤Rows.uptoBulk y4.1:=b4
   have b5:sumB Syntax.bulk x5≤Rows.uptoBulk y5.1:=b5
   have b6:1≤Rows.uptoBulk y6.1:=b6
   have b7:1≤Rows.uptoBulk y7.1:=b7
   refine ⟨.mk x0 x1 x2 x3 x4 x5 x6 x7,?_,?_,?_,?_⟩
   ·have hr:=(r9 r0 (r9 r1 (r9 r2 (r9 r3 (r9 r4 (r9 r5 (r9 r6 (r9 r7 (KM hl)))))))))
    rw[j8] at hr
    rw[Syntax.rH]
    simpa only[kf,kg,kj,ko,Syntax.kind,Syntax.text,Syntax.num,Syntax.names,Syntax.levels,Syntax.kids,Syntax.from_,Syntax.to] using hr
   ·have ho:=(sj o0 (sj o1 (sj o2 (sj o3 (sj o4 (sj o5 (sj o6 (sj o7 (KN hl)))))))))
    rw[j8] at ho
    exact ho
   ·rw[Syntax.bulk_eq]
    simp only[kq,ku,Rows.uptoBulk,Rows.uptoBulkAll]
    simp only[Syntax.kind,Syntax.text,Syntax.num,Syntax.names,Syntax.levels,Syntax.kids,Syntax.from_,Syntax.to]
    omega
   ·rw[Syntax.wf_eq]
    exact ⟨w0,w1,w2,w3,w4,w5,w6,w7,trivial⟩
 termination_by n=>n
 decreasing_by all_goals omega
end
def Law25Pair.bulk (x:Law25Pair):Nat:=1+(1+(1+(1+1)))
def Law25Pair.wf (x:Law25Pair):Prop:=Uf .u8 x.left∧Uf .u8 x.right∧Uf .u8 x.xU∧Uf .u8 x.wu∧True
theorem Law25Pair.read {H:Type} {en:TypeId×Value→H} {W:World} {sp:Nat→Bool} {held:Bool}: ∀ (n:Nat) (cs:List Value) (x:DataW H×List MemPlace),j9 en Tryd.prog W 0 sp held n 54 cs=some x→ON Tryd.prog W Law25Pair.cells Law25Pair.bulk Law25Pair.wf cs x.1
 |n,cs,x,h=>by
  obtain ⟨xs,m,hm,rfl,hl,hlen,hf⟩:=ke (fs:=Tryd.prog.fieldsOf 54) (by kernel_rfl) h
  have hsz:Tryd.prog.cellsOf 54=4:=by kernel_rfl
  have hfs:(Tryd.prog.fieldsOf 54).size=4:=by kernel_rfl
  rw[hsz] at hl
  rw[hfs] at hlen
  have h0:=tv (i:=0) (ty:=5) (off:=0) (sz:=1) (by kernel_rfl) (by kernel_rfl) hf (by omega)
  have h1:=tv (i:=1) (ty:=5) (off:=1) (sz:=1) (by kernel_rfl) (by kernel_rfl) hf (by omega)
  have h2:=tv (i:=2) (ty:=5) (off:=2) (sz:=1) (by kernel_rfl) (by kernel_rfl) hf (by omega)
  have h3:=tv (i:=3) (ty:=5) (off:=3) (sz:=1) (by kernel_rfl) (by kernel_rfl) hf (by omega)
  match xs,hlen,h0,h1,h2,h3 with
  |[y0,y1,y2,y3],_,h0,h1,h2,h3=>
   obtain ⟨x0,r0,o0,b0,w0⟩:=Gm (t:=5) (k:= .u8) (by kernel_rfl) h0
   obtain ⟨x1,r1,o1,b1,w1⟩:=Gm (t:=5) (k:= .u8) (by kernel_rfl) h1
   obtain ⟨x2,r2,o2,b2,w2⟩:=Gm (t:=5) (k:= .u8) (by kernel_rfl) h2
   obtain ⟨x3,r3,o3,b3,w3⟩:=Gm (t:=5) (k:= .u8) (by kernel_rfl) h3
   have b0:1≤Rows.uptoBulk y0.1:=b0
   have b1:1≤Rows.uptoBulk y1.1:=b1
   have b2:1≤Rows.uptoBulk y2.1:=b2
   have b3:1≤Rows.uptoBulk y3.1:=b3
   refine ⟨⟨x0,x1,x2,x3⟩,?_,?_,?_,?_⟩
   ·have hr:=(r9 r0 (r9 r1 (r9 r2 (r9 r3 (KM hl)))))
    rw[j8] at hr
    rw[Law25Pair.rH]
    simpa only[kf,kg,kj,ko] using hr
   ·have ho:=(sj o0 (sj o1 (sj o2 (sj o3 (KN hl)))))
    rw[j8] at ho
    exact ho
   ·simp only[kq,ku,Rows.uptoBulk,Rows.uptoBulkAll,Law25Pair.bulk]
    omega
   ·exact ⟨w0,w1,w2,w3,trivial⟩
def m4.bulk (x:m4):Nat:=sumB Syntax.bulk x.l+(x.e.bulk+1)
def m4.wf (x:m4):Prop:=(∀y∈x.l,y.wf)∧x.e.wf∧True
theorem m4.read {H:Type} {en:TypeId×Value→H} {W:World} {sp:Nat→Bool} {held:Bool}: ∀ (n:Nat) (cs:List Value) (x:DataW H×List MemPlace),j9 en Tryd.prog W 0 sp held n 71 cs=some x→ON Tryd.prog W m4.cells m4.bulk m4.wf cs x.1
 |n,cs,x,h=>by
  obtain ⟨xs,m,hm,rfl,hl,hlen,hf⟩:=ke (fs:=Tryd.prog.fieldsOf 71) (by kernel_rfl) h
  have hsz:Tryd.prog.cellsOf 71=9:=by kernel_rfl
  have hfs:(Tryd.prog.fieldsOf 71).size=2:=by kernel_rfl
  rw[hsz] at hl
  rw[hfs] at hlen
  have h0:=tv (i:=0) (ty:=32) (off:=0) (sz:=1) (by kernel_rfl) (by kernel_rfl) hf (by omega)
  have h1:=tv (i:=1) (ty:=36) (off:=1) (sz:=8) (by kernel_rfl) (by kernel_rfl) hf (by omega)
  match xs,hlen,h0,h1 with
  |[y0,y1],_,h0,h1=>
   obtain ⟨x0,r0,o0,b0,w0⟩:=F2 (t:=32) (e:=36) (sz:=8) (enc:=Syntax.cells) (bk:=Syntax.bulk) (wf:=Syntax.wf) (by kernel_rfl) (by kernel_rfl) (by decide) Syntax.length (fun k hk cs x h=>Syntax.read k cs x h) h0
   obtain ⟨x1,r1,o1,b1,w1⟩:=Syntax.read m _ _ h1
   have b0:sumB Syntax.bulk x0≤Rows.uptoBulk y0.1:=b0
   have b1:x1.bulk≤Rows.uptoBulk y1.1:=b1
   refine ⟨⟨x0,x1⟩,?_,?_,?_,?_⟩
   ·have hr:=(r9 r0 (r9 r1 (KM hl)))
    rw[j8] at hr
    rw[m4.rH]
    simpa only[kf,kg,kj,ko] using hr
   ·have ho:=(sj o0 (sj o1 (KN hl)))
    rw[j8] at ho
    exact ho
   ·simp only[kq,ku,Rows.uptoBulk,Rows.uptoBulkAll,m4.bulk]
    omega
   ·exact ⟨w0,w1,trivial⟩
def mO.bulk (x:mO):Nat:=sumB Notation.bulk x.table+(sumB Syntax.bulk x.l+(1+(1+1)))
def mO.wf (x:mO):Prop:=(∀y∈x.table,y.wf)∧(∀y∈x.l,y.wf)∧Uf .i64 x.at_∧True∧True
theorem mO.read {H:Type} {en:TypeId×Value→H} {W:World} {sp:Nat→Bool} {held:Bool}: ∀ (n:Nat) (cs:List Value) (x:DataW H×List MemPlace),j9 en Tryd.prog W 0 sp held n 89 cs=some x→ON Tryd.prog W mO.cells mO.bulk mO.wf cs x.1
 |n,cs,x,h=>by
  obtain ⟨xs,m,hm,rfl,hl,hlen,hf⟩:=ke (fs:=Tryd.prog.fieldsOf 89) (by kernel_rfl) h
  have hsz:Tryd.prog.cellsOf 89=4:=by kernel_rfl
  have hfs:(Tryd.prog.fieldsOf 89).size=4:=by kernel_rfl
  rw[hsz] at hl
  rw[hfs] at hlen
  have h0:=tv (i:=0) (ty:=26) (off:=0) (sz:=1) (by kernel_rfl) (by kernel_rfl) hf (by omega)
  have h1:=tv (i:=1) (ty:=32) (off:=1) (sz:=1) (by kernel_rfl) (by kernel_rfl) hf (by omega)
  have h2:=tv (i:=2) (ty:=3) (off:=2) (sz:=1) (by kernel_rfl) (by kernel_rfl) hf (by omega)
  have h3:=tv (i:=3) (ty:=4) (off:=3) (sz:=1) (by kernel_rfl) (by kernel_rfl) hf (by omega)
  match xs,hlen,h0,h1,h2,h3 with
  |[y0,y1,y2,y3],_,h0,h1,h2,h3=>
   obtain ⟨x0,r0,o0,b0,w0⟩:=F2 (t:=26) (e:=24) (sz:=4) (enc:=Notation.cells) (bk:=Notation.bulk) (wf:=Notation.wf) (by kernel_rfl) (by kernel_rfl) (by decide) Notation.length (fun k hk cs x h=>Notation.read k cs x h) h0
   obtain ⟨x1,r1,o1,b1,w1⟩:=F2 (t:=32) (e:=36) (sz:=8) (enc:=Syntax.cells) (bk:=Syntax.bulk) (wf:=Syntax.wf) (by kernel_rfl) (by kernel_rfl) (by decide) Syntax.length (fun k hk cs x h=>Syntax.read k cs x h) h1
   obtain ⟨x2,r2,o2,b2,w2⟩:=Gm (t:=3) (k:= .i64) (by kernel_rfl) h2
   obtain ⟨x3,r3,o3,b3,w3⟩:=rd_bool (t:=4) (by kernel_rfl) h3
   have b0:sumB Notation.bulk x0≤Rows.uptoBulk y0.1:=b0
   have b1:sumB Syntax.bulk x1≤Rows.uptoBulk y1.1:=b1
   have b2:1≤Rows.uptoBulk y2.1:=b2
   have b3:1≤Rows.uptoBulk y3.1:=b3
   refine ⟨⟨x0,x1,x2,x3⟩,?_,?_,?_,?_⟩
   ·have hr:=(r9 r0 (r9 r1 (r9 r2 (r9 r3 (KM hl)))))
    rw[j8] at hr
    rw[mO.rH]
    simpa only[kf,kg,kj,ko] using hr
   ·have ho:=(sj o0 (sj o1 (sj o2 (sj o3 (KN hl)))))
    rw[j8] at ho
    exact ho
   ·simp only[kq,ku,Rows.uptoBulk,Rows.uptoBulkAll,mO.bulk]
    omega
   ·exact ⟨w0,w1,w2,w3,trivial⟩
end Go.Abs
namespace Go.Abs
open Go.Proofs Go.Proofs.YtfilfimjoeapgaaDoor Go.RowKit
section
variable {H:Type} {enc:TypeId×Value→H}
theorem UZ {a:Assume} {C:Checked} {os:Os} {f:FuncId} {fn:Func} {s:OpenSpec} {k:(H:Type)→List (DataW H)→Bool} (hk:s.cond=some k) {F:Stop.Interp} {conds:List PathCond} {apart fresh handsOn again:Bool}
 (own:ownKnob C.prog.godebug=none) (started:os.Started) (noInit:C.prog.inits.idxOf? f=none) (hfn:C.prog.funcs[f]? =some fn)
 (witness: ∃ (w:World) (tape:Tape) (i:Input),w.os=os∧(w.forCall tape i).Shaped C.prog∧i.vars=[]∧Input.okWide C.prog (w.forCall tape i) .any w.heap.size f i∧
   s.pre6 enc C.prog fn conds apart (w.forCall tape i).memory i.args∧a.holds C.prog (lone (Frame.enter C.prog f i.args .normal) [] (w.forCall tape i)))
 (contract: ∀ (W:World) (base:Nat) (args:Array Value) (ds gs:List (DataW H)) (before:List MemPlace),
   (∀ (j:Nat) t v,fn.params[j]? =some t→args[j]? =some v→kr C.prog W .any base t v)→
   DataW.Whole enc C.prog fn.params.toList s.vars apart W args.toList ds gs before→
   conds.all (PathCond.test C.prog ⟨fn.params.toList,ds,s.bare.plain.varTypes C.prog,gs⟩)=true→k H (ds++gs)=true→W.ShapedOpen C.prog→
   Calls C.prog f args W fun e W'=> ∃v,e= .returned v∧(s.at F).post enc C.prog fn apart fresh handsOn again W args v W'):
 ReturnsInHanded a C os f .any (s.pre6 enc C.prog fn conds apart) ((s.at F).post enc C.prog fn apart fresh handsOn again):=by
 refine returnsInHanded_of_calls own started noInit witness ?_
 intro w tape i _ hsh _ hok hpre hholds
 obtain ⟨_,_,_,fn',hfn',_,_,_,_,hval⟩:=hok
 have e:fn'=fn:=Option.some.inj (hfn'.symm.trans hfn)
 subst e
 obtain ⟨ds,gs,before,hw,hc,hkk⟩:=(OpenSpec.pre_some hk conds apart _ _).1 hpre.1
 have hw':=DataW.Whole.of_heap (w':=w.forCall tape i) (by rfl) hw
 refine (contract (w.forCall tape i) w.heap.size i.args ds gs before hval hw' hc hkk hsh).mono fun e W' ⟨v,he,hp⟩=> ?_
 subst he
 exact ChangeSpec.post_blind hp
end
section
variable {H:Type} {en:TypeId×Value→H} {P:Program} {W W':World}
def Left0 (W W':World):Prop:=W.heap.size≤W'.heap.size∧(∀b,b<W.heap.size→W'.heap[b]? =W.heap[b]?)∧(∀x,x.block<W.heap.size→W'.frozen? x=W.frozen? x)∧W'.output=W.output∧W'.os=W.os
theorem calls_of_fnC (hk:Xs W (fun _ _=>False)) {f:FuncId} {args:List AV} {X:AV} {vs:Array Value} (h:xS P f args (fun r=>r=X)) (hr:m7 (W6 P W) args vs.toList):
 Calls P f vs W fun e W'=> ∃v φ',e= .returned v∧rB ((ctx0 P W hk).env φ' [] W') X v∧Left0 W W':=by
 refine (h.2.2 (ctx0 P W hk) (fun _=>undef) W rfl rfl rfl (fun _ _ h=>h) vs hr).mono ?_
 rintro e W' ⟨r,v,φ',rfl,he,uM,h1,h2,h3,h4,h5⟩
 exact ⟨v,φ',he,uM,h1,h2,h3,h4,h5⟩
theorem Left0.kept (h:Left0 W W') (may:MemPlace→Prop):W.keptBut W' may:=by
 obtain ⟨h1,h2,h3,h4,h5⟩:=h
 refine ⟨h5,h4,fun i hi=> ?_⟩
 rw[h2 i hi]
 cases W.heap[i]? with
 |none=>rfl
 |some o=>
  cases o with
  |cells c t fr=>exact ⟨rfl,rfl,rfl,fun _ _=>rfl⟩
  |map es clock=>exact .inr ⟨rfl,rfl⟩
  |_=>rfl
theorem post_of_sameB {enc:TypeId×Value→H} {f:Func} {s:ChangeSpec} {apart fresh handsOn again:Bool} {args:Array Value} {v:Value} {ds gs:List (DataW H)} {before pa pv:List MemPlace}
 (hW:DataW.Whole enc P f.params.toList s.vars apart W args.toList ds gs before)
 (hres: ∀ (b:Nat) (sp:Nat→Bool) (hd:Bool),DataW.TrodAll enc P W' b sp hd f.resultTypes.toList (v.resultList f.resultTypes.size) (s.fn H (ds++gs)).results [])
 (hargs: ∀sp:Nat→Bool,(∀p∈before,sp p.block=true)→DataW.TrodAll enc P W' 0 sp true f.params.toList args.toList (s.fn H (ds++gs)).args pa)
 (hvars: ∀sp:Nat→Bool,(∀p∈before,sp p.block=true)→DataW.TrodVars enc P W' sp s.vars (s.fn H (ds++gs)).vars pv)
 (hps:before=pa++pv) (hk:W.keptBut W' (· ∈before)) (hfz: ∀a,a.block<W.heap.size→W'.frozen? a=W.frozen? a)
 (hok: ∀ (j:Nat) (t:TypeId) (r:Value),f.resultTypes[j]? =some t→(v.resultList f.resultTypes.size)[j]? =some r→kr P W' .any 0 t r):
 s.post enc P f apart fresh handsOn again W args v W':=by
 have hold: ∀p∈before,(fun b=>decide (b<W.heap.size)) p.block=true:=fun p hp=>by simpa using hW.lt p hp
 have hlt:=hW.lt
 refine ⟨ds,gs,before,[],pa,pv,hW,hres _ _ _,hargs _ hold,hvars _ hold,World.keptBut_mono (fun p hp=>⟨hp,?_⟩) hk,fun _=> ?_⟩
 ·rw[hps,List.mem_append] at hp
  exact Or.inr hp
 ·obtain ⟨_,_,_,_,_,hz,hn⟩:=hW
  refine ⟨hok,_,_,([]++pa)++pv,⟨[]++pa,pv,Go.ChangeShapes.trodAll_append (hargs _ (fun _ _=>rfl)) (hres _ _ _),hvars _ (fun _ _=>rfl),rfl,?_,?_⟩,?_⟩
  ·intro b off hp
   have hp':MemPlace.cell b off∈before:=by rw[hps];simpa using hp
   rw[hfz _ (hlt _ hp')]
   exact hz b off hp'
  ·intro ha
   have:=hn ha
   rw[hps] at this
   simpa using this
  ·intro p hp _
   rw[hps]
   simpa using hp
theorem arg_stays {t:TypeId} (hl:laidOutB P=true) (hr:P.readableRec t=true) (hrow:t<P.types.size) {sp:Nat→Bool} {v:Value} {d:DataW H} {ps:List MemPlace}
 (h:kE en P W 0 (fun _=>true) true t v d ps) (hL:Left0 W W') (hs: ∀p∈ps,sp p.block=true):kE en P W' 0 sp true t v d ps:=by
 refine WideElems.Trod_stays hl hr hrow h (fun p hp=> ?_) hs
 obtain ⟨n,hn⟩:=h
 have hb:=DataW.trod_lt n t _ _ hn p hp
 cases p with
 |cell b off=>
  have hb':b<W.heap.size:=hb
  show W'.cell? ⟨b,off,none⟩=W.cell? ⟨b,off,none⟩
  simp only[World.cell?,hL.2.1 b hb']
 |map b=>exact hL.2.1 b hb
theorem arg_struct {α:Type} {t:TypeId} {fs:Array Field} {e:α→List AV} {bk:α→Nat} {wf:α→Prop} {base:Nat} {v:Value} {d:DataW H} {ps:List MemPlace} (ht:P.underlying t=some (.struct fs)) (hval:kr P W .any base t v)
 (h:kE en P W 0 (fun _=>true) true t v d ps) (hread: ∀n cs x,j9 en P W 0 (fun _=>true) true n t cs=some x→ON P W e bk wf cs x.1):
 ∃x,rB (W6 P W) (.agg (e x)) v∧bk x≤Rows.uptoBulk d∧wf x:=by
 obtain ⟨cs,rfl,_⟩:=WideShapes.okWide_struct ht hval
 obtain ⟨n,hn⟩:=h
 obtain ⟨x,hr,_,hb,hw⟩:=hread n _ _ hn
 exact ⟨x,⟨cs,rfl,hr⟩,hb,hw⟩
theorem arg_cell {α:Type} {t:TypeId} {e:α→AV} {bk:α→Nat} {wf:α→Prop} {v:Value} {d:DataW H} {ps:List MemPlace} (hv:v.cells.toList=[v])
 (h:kE en P W 0 (fun _=>true) true t v d ps) (hread: ∀n cs x,j9 en P W 0 (fun _=>true) true n t cs=some x→ON P W (fun x=>[e x]) bk wf cs x.1):
 ∃x,rB (W6 P W) (e x) v∧bk x≤Rows.uptoBulk d∧wf x:=by
 obtain ⟨n,hn⟩:=h
 obtain ⟨x,hr,_,hb,hw⟩:=hread n _ _ hn
 rw[hv] at hr
 obtain ⟨u,us,he,h1,_⟩:=hr
 simp only[List.cons.injEq] at he
 obtain ⟨rfl,_⟩:=he
 exact ⟨x,h1,hb,hw⟩
theorem cell_int {t:TypeId} {k:IntKind} {base:Nat} {v:Value} (ht:P.underlying t=some (.int k)) (hval:kr P W .any base t v):v.cells.toList=[v]:=by
 obtain ⟨n,rfl⟩:=WideShapes.okWide_int ht hval;rfl
theorem cell_string {t:TypeId} {base:Nat} {v:Value} (ht:P.underlying t=some .string) (hval:kr P W .any base t v):v.cells.toList=[v]:=by
 obtain ⟨n,rfl⟩:=WideShapes.okWide_string ht hval;rfl
theorem cell_bool {t:TypeId} {base:Nat} {v:Value} (ht:P.underlying t=some .bool) (hval:kr P W .any base t v):v.cells.toList=[v]:=by
 obtain ⟨n,rfl⟩:=WideShapes.okWide_bool ht hval;rfl
theorem cell_slice {t e:TypeId} {base:Nat} {v:Value} (ht:P.underlying t=some (.slice e)) (hval:kr P W .any base t v):v.cells.toList=[v]:=by
 obtain ⟨a,l,c,rfl⟩:=WideShapes.okWide_slice ht hval;rfl
theorem cell_other {t:TypeId} {base:Nat} {v:Value} (ht: ∀fs,P.underlying t≠some (.struct fs)) (ht': ∀n e,P.underlying t≠some (.array n e)) (hval:kr P W .any base t v) (hv: ∀cs,v≠ .agg cs):v.cells.toList=[v]:=by
 cases v<;>first|rfl|exact absurd rfl (hv _)
end
end Go.Abs
namespace Go.Abs
open Go.Proofs Go.Proofs.YtfilfimjoeapgaaDoor Go.MakeChecks
theorem knowW {W:World} (h:W.ShapedOpen Tryd.prog) (hl:laidMetH Tryd.prog Rows.notationChecksRow.laid W):Xs W (fun _ _=>False):=by
 rintro b o (⟨rfl,rfl⟩|⟨rfl,ho⟩)
 ·obtain ⟨m,hm⟩:=cell_of_shapedOpen_int (g:=1) (t:=3) (zero:= #[.int .i64 0]) (k:= .i64) h (of_decide_eq_true (by kernel_rfl)) (by kernel_rfl) rfl (by kernel_rfl) (by kernel_rfl) (by kernel_rfl)
  exact ⟨_,hm,⟨fun _=>⟨m,rfl⟩,fun f=>by cases f⟩,fun f=>f⟩
 ·rw[laidMetH_plain _ _ _ (by kernel_rfl)] at hl
  have hm:=(laidMet.tail (laidMet.tail hl))
  have e:(Rows.laid_strings_asciiSpace:DataW Unit)=Lib.tabData .u8 ((List.range 256).map Rw):=by kernel_rfl
  rw[e] at hm
  have ht:=Lib.tabIs_of_head (P:=Tryd.prog) (g:=0) (t:=145) (e:=5) (n:=256) (by kernel_rfl) (by kernel_rfl) (by kernel_rfl) (by kernel_rfl) (by kernel_rfl) (by kernel_rfl) hm
  have hc:=ht.cell (g:=0) (by kernel_rfl) o (by simpa using ho)
  have hz:((List.range 256).map Rw).getD o 0=Rw o:=by
   rw[List.getD_eq_getElem?_getD,List.getElem?_map,List.getElem?_range ho];rfl
  rw[hz] at hc
  exact ⟨_,hc,⟨fun f=>(by cases f),fun _=>rfl⟩,fun f=>f⟩
end Go.Abs
namespace Go.Proofs.YtfilfimjoeapgaaDoor
open Go.RowKit
set_option maxRecDepth 100000
abbrev laidL:List (String×DataW Unit):=[("unicode/utf8.acceptRanges",Rows.laid_unicode_utf8_acceptRanges),("unicode.White_Space",Rows.laid_unicode_White_Space),("strings.asciiSpace",Rows.laid_strings_asciiSpace),("unicode/utf8.first",Rows.laid_unicode_utf8_first)]
noncomputable def VK (os:Os):World:=World.laidAll Tryd.prog os laidL
theorem laidWorld_os (os:Os):(VK os).os=os:=World.laidAll_os _ _ _
theorem laid_met (os:Os) (args:Array Value):laidMet Tryd.prog laidL ((VK os).forCall (fun _ _=>0) ⟨#[],args,[]⟩).memory:=
 laidMet_laidAll args (by kernel_rfl) (by kernel_rfl)
end Go.Proofs.YtfilfimjoeapgaaDoor
