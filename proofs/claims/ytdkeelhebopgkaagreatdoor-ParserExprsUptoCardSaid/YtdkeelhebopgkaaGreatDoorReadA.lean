/- A part of the proof: reading of arguments. -/
import Derived.Test.YtdkeelhebopgkaaGreatDoorDataA
import Derived.Test.YtdkeelhebopgkaaGreatDoorRows
import Derived.ChangeArms
import Derived.WalkKit
import Derived.ProofKit
import Derived.OpenShut
import Derived.JoinedCond
import Derived.WideKeyArgs
import Derived.Carry
import Derived.Test.YtdkeelhebopgkaaGreatDoorCoreA
import Derived.Shelf.Vars
import Derived.Stop.LaidErr
import Derived.MakeChecks
import Derived.Lib.LaidTab
import Derived.Test.YtdkeelhebopgkaaGreatDoorCards
import Derived.Test.YtdkeelhebopgkaaGreatDoorTie
import Derived.Deep.DeepHandedRow
import Derived.Lay
import Derived.Deep.DeepWitnessRowRef
import Derived.Test.YtdkeelhebopgkaaGreatDoorWalkA
import Derived.Test.YtdkeelhebopgkaaGreatDoorWalkB
import Derived.Test.YtdkeelhebopgkaaGreatDoorWalkC
import Derived.Test.YtdkeelhebopgkaaGreatDoorWalkD
set_option linter.all false
open Go renaming Value→aMU,TypeId→aMV
open Go.DataW renaming trod→gi,Trod→gw
open Go.Value renaming okWide→gj,oneCell'→gq
open Go.laidMet renaming tail→gk
open List renaming getElem?_eq_getElem→gp,drop_of_length_le→gr,drop_zero→gu,take_append_drop→gv
namespace Go.Abs
variable {fs:Array Field}{handsOn:Bool}{E:D4}{f:FuncId}{k:IntKind}{ps:List MemPlace}{cs:List aMU}{base i n o off:Nat}{sp:Nat->Bool}{W:Type}{t:aMV}{v:aMU}{aL6:World}{bk:W->Nat}
open Go.Proofs.YtdkeelhebopgkaaGreatDoor
def aJG(P:Program)(aL6:World)(hk:ar2 aL6 (fun _ _=>False)):tg:={P,w0:=aL6,M0:=fun _ _=>False,A:=fun _ _=>False,hA:=fun _ _ h=>h.elim,hk}
def ars(P:Program)(aL6:World):D4:={w:=aL6,mu:=fun b o=>Sx (fun _=>undef) [] b o\/False,U:=fun _=>undef,ln:=fun l=>nO ([]:List kp)[l]?,n:=0}
def aFc{P:Program}(b o:Nat): ¬ (ars P aL6).mu b o:=by
 simp only[ars];rintro(⟨l,x,hx,_⟩|h)
 ·simp at hx
 ·exact h
section
variable {H:Type} {en:aMV×aMU->H} {P:Program} {held:Bool}
def wfI(k:IntKind)(n:Int):Prop:=(Lit.int k n).wf=true
def aKa{n:Int}(h:wfI .i64 n): -9223372036854775808<=n/\n<=9223372036854775807:=by
 simpa [wfI,Lit.wf,IntKind.min,IntKind.max,IntKind.signed,IntKind.bits] using h
def aLa{n:Int}(h:wfI .u8 n):0<=n/\n<=255:=by
 simpa [wfI,Lit.wf,IntKind.min,IntKind.max,IntKind.signed,IntKind.bits] using h
def auj(P:Program)(aL6:World)(e:W->List AV)(bk:W->Nat)(wf:W->Prop)(cs:List aMU)(d:DataW H):Prop:=
 ∃x,kQ (ars P aL6) (e x) cs/\(∀u∈cs,u.oneCell'=true)/\bk x<=Rows.uptoBulk d/\wf x
def aCj{x:DataW H×List MemPlace}(ht:P.underlying t=some (.int k))(h:gi en P aL6 0 sp held n t cs=some x):
 auj P aL6 (fun m:Int=>[.int k m]) (fun _=>1) (wfI k) cs x.1:=by
 obtain⟨m,rfl,rfl,hw⟩:=DataW.trod_int ht h;exact⟨m,⟨_,[],rfl,rfl,rfl⟩,by simp [gq],by simp [Rows.uptoBulk],hw⟩
def aKb{x:DataW H×List MemPlace}(ht:P.underlying t=some .bool)(h:gi en P aL6 0 sp held n t cs=some x):
 auj P aL6 (fun m:Bool=>[.bool m]) (fun _=>1) (fun _=>True) cs x.1:=by
 obtain⟨m,rfl,rfl⟩:=DataW.trod_bool ht h;exact⟨m,⟨_,[],rfl,rfl,rfl⟩,by simp [gq],by simp [Rows.uptoBulk],trivial⟩
def aCk{x:DataW H×List MemPlace}(ht:P.underlying t=some .string)(h:gi en P aL6 0 sp held n t cs=some x):
 auj P aL6 (fun m:Str=>[.str (sb m)]) (fun m=>m.length+1) (fun _=>True) cs x.1:=by
 obtain⟨s,rfl,rfl,_⟩:=DataW.trod_string ht h;exact⟨s.data.toList,⟨_,[],rfl,by rw[aqA];rfl,rfl⟩,by simp [gq],by simp [Rows.uptoBulk],trivial⟩
def ae1{W:Type}(bk:W->Nat):List W->Nat
 |[]=>1
 |x::xs=>bk x+ae1 bk xs
theorem ane{W:Type}{bk:W->Nat}:∀xs:List W,1<=ae1 bk xs
 |[]=>Nat.le_refl _
 |_::xs=>by have:=ane (bk:=bk) xs;simp only[ae1];omega
def apw{b:Nat}:∀{cs:List AV}{vs:List aMU}{off:Nat},kQ (ars P aL6) cs vs->(∀u∈vs,u.oneCell'=true)->(∀j u,vs[j]? =some u->aL6.cell? ⟨b,off+j,none⟩=some u)->ou (ars P aL6) b off cs
 |[],_,_,_,_,_=>trivial
 |c::cs,_,off,⟨u,us,rfl,r1,r2⟩,h1,h2=>by
  refine⟨⟨aFc b off,u,h2 0 u (by simp),h1 u (by simp),r1⟩,apw r2 (fun v hv=>h1 v (by simp [hv])) (fun j v hj=>?_)⟩;rw[<-h2 (j+1) v (by simpa using hj)];congr 2;omega
def aCl {e:aMV}{sz:Nat}{enc:W->List AV}{wf:W->Prop}(ht:P.underlying t=some (.slice e))(hsz:P.cellsOf e=sz)(anW:0<sz)(hl: ∀x,(enc x).length=sz) (ih: ∀m,m<n-> ∀cs x,gi en P aL6 0 sp held m e cs=some x->auj P aL6 enc bk wf cs x.1) {x:DataW H×List MemPlace} (h:gi en P aL6 0 sp held n t cs=some x):
 auj P aL6 (fun xs:List W=>[.lS false sz (mp enc xs)]) (ae1 bk) (fun xs=>∀y∈xs,wf y) cs x.1:=by
 rcases DataW.trod_slice ht h with⟨rfl,rfl⟩|⟨a,len,cap,elems,rest,m,hm,rfl,rfl,hb,hlc,hmx,hlen,hel,hsp,hns⟩
 ·refine⟨[],⟨_,[],rfl,?_,rfl⟩,by simp [gq],by simp [Rows.uptoBulk,ae1],by simp⟩;rw[tQ];exact⟨none,0,rfl,Nat.le_refl _,(by intro h;cases h),fun _=>rfl,(by intro a h;cases h),(by intro a h;cases h)⟩
 ·subst hsz
  have key:∀(k i:Nat),i+k=len->∃xs:List W,xs.length=k/\n8 (ars P aL6) (P.cellsOf e) a.block (a.off+i*P.cellsOf e) (mp enc xs)/\ae1 bk xs<=Rows.uptoBulkAll ((elems.drop i).map (·.1))+1/\(∀y∈xs,wf y)/\(0<k->i=0->a.spot=none):=by
   intro k;induction k with
   |zero=>
    intro i hi;refine⟨[],rfl,by rw[tQ];trivial,?_,by simp,by omega⟩;simp [ae1]
   |succ k ihk=>
    intro i hi;obtain⟨xs,hxl,Pp,aGd,hwf,_⟩:=ihk (i+1) (by omega);have hi':i<elems.length:=by omega
    have he:=hel i (by omega);rw[gp hi']at he;obtain⟨vs,hvs,htr⟩:=Option.bind_eq_some_iff.1 he;obtain⟨y,hy,h1,hbk,hw⟩:=ih m (by omega) vs _ htr;obtain⟨_,hvl,HA⟩:=World.cells?_some hvs
    have apx:(a.add (i*P.cellsOf e)).spot=none:=by
     have h0:=HA 0 anW;have hv0:vs[0]? =some vs[0]:=gp (by omega);rw[hv0]at h0;unfold World.cell? at h0;have:(a.add (i*P.cellsOf e)).add 0=a.add (i*P.cellsOf e):=by unfold Addr.add;simp
     rw[this]at h0;split at h0
     ·split at h0
      ·cases h0
      ·rename_i hs;simpa using hs
     ·cases h0
    have aLb:a.add (i*P.cellsOf e)=⟨a.block,a.off+i*P.cellsOf e,none⟩:=by
     unfold Addr.add at apx ⊢;split
     ·rename_i h0;rw[if_pos h0]at apx;cases a;simp_all
     ·rfl
    refine⟨y::xs,by simp [hxl],?_,?_,?_,?_⟩
    ·rw[tQ]at Pp ⊢;refine⟨hl y,apw hy h1 (fun j u hj=>?_),?_⟩
     ·have hj':j<P.cellsOf e:=by rw[<-hvl];exact(List.getElem?_eq_some_iff.1 hj).1
      have:=HA j hj';rw[hj,aLb,AB]at this;exact this
     ·have e2:a.off+i*P.cellsOf e+P.cellsOf e=a.off+(i+1)*P.cellsOf e:=by rw[Nat.add_mul];omega
      rw[e2];exact Pp
    ·have e3:elems.drop i=elems[i]::elems.drop (i+1):=List.drop_eq_getElem_cons hi';rw[e3];simp only[List.map_cons,Rows.uptoBulkAll,ae1];omega
    ·intro z hz;simp only[List.mem_cons]at hz;rcases hz with rfl|hz
     ·exact hw
     ·exact hwf z hz
    ·intro _ h0;subst h0;rw[Nat.zero_mul]at apx;simpa [Addr.add] using apx
  obtain⟨xs,hxl,Pp,aGd,hwf,apx⟩:=key len 0 (by omega);refine⟨xs,⟨_,[],rfl,?_,rfl⟩,by simp [gq],?_,hwf⟩
  ·refine⟨some a,cap,by rw[Qo,hxl],by rw[Qo,hxl];exact hlc,(by intro h;cases h),(by intro h;cases h),?_,?_⟩
   ·intro a' ha wN;cases ha
    have:0<len:=by
     rw[<-hxl,<-Qo enc xs];exact List.length_pos_iff.2 wN
    exact apx this rfl
   ·intro a' ha;cases ha;simpa using Pp
  ·simp only[gu]at aGd;simp only[Rows.uptoBulk];omega
def fld {ty:Nat}(h:(fs[i]?).map (fun f=>(f.type,f.offset))=some (ty,off)):∃f,fs[i]? =some f/\f.type=ty/\f.offset=off:=by
 cases hf:fs[i]? with
 |none=>rw[hf]at h;cases h
 |some f=>rw[hf]at h;cases h;exact⟨f,rfl,rfl,rfl⟩
def air {ty:Nat}{m sz:Nat}{xs:List (DataW H×List MemPlace)}(h:(fs[i]?).map (fun f=>(f.type,f.offset))=some (ty,off))(hsz:P.cellsOf ty=sz)
 (hf:∀(i:Nat)(f:Field),fs[i]? =some f->gi en P aL6 0 sp held m f.type ((cs.drop f.offset).take (P.cellsOf f.type))=xs[i]?) (hi:i<xs.length):gi en P aL6 0 sp held m ty ((cs.drop off).take sz)=some xs[i]:=by
 obtain⟨f,h1,rfl,rfl⟩:=fld h;rw[<-hsz,hf i f h1,gp hi]
def adX{a b:List AV}{s:Nat}(h1:kQ E a ((cs.drop o).take s))(h2:kQ E b (cs.drop (o+s))):kQ E (a++b) (cs.drop o):=by
 have:=kQ.append h1 h2;rw[<-List.drop_drop,gv]at this;exact this
def adY {s:Nat}(h1:∀u∈(cs.drop o).take s,u.oneCell'=true)(h2:∀u∈cs.drop (o+s),u.oneCell'=true):∀u∈cs.drop o,u.oneCell'=true:=by
 intro u hu;rw[<-gv s (cs.drop o),List.mem_append,List.drop_drop]at hu;rcases hu with hu|hu
 ·exact h1 u hu
 ·exact h2 u hu
def aFd(h:cs.length=o):kQ E [] (cs.drop o):=by
 rw[gr (by omega)];rfl
def aFe(h:cs.length=o):∀u∈cs.drop o,u.oneCell'=true:=by
 rw[gr (by omega)];simp
end
open Go.Proofs
open Go.Proofs.YtdkeelhebopgkaaGreatDoor
set_option maxRecDepth 100000
def jV.aw1(x:jV):Nat:=ae1 (fun m:Str=>m.length+1) x.parts+(1+(1+((x.target.length+1)+1)))
def jV.wf(x:jV):Prop:=(∀y∈x.parts,True)/\wfI .i64 x.mY/\wfI .i64 x.Ck/\True/\True
def jV.read{H:Type}{en:aMV×aMU->H}{held:Bool}:∀(n:Nat)(cs:List aMU)(x:DataW H×List MemPlace),gi en Tryz.prog aL6 0 sp held n 53 cs=some x->auj Tryz.prog aL6 jV.cells jV.aw1 jV.wf cs x.1
 |n,cs,x,h=>by
  obtain⟨xs,m,hm,rfl,hl,hlen,hf⟩:=DataW.trod_struct (fs:=Tryz.prog.fieldsOf 53) (by kernel_rfl) h;have hsz:Tryz.prog.cellsOf 53=4:=by kernel_rfl
  have hfs:(Tryz.prog.fieldsOf 53).size=4:=by kernel_rfl
  rw[hsz]at hl;rw[hfs]at hlen;have h0:=air (i:=0) (ty:=25) (off:=0) (sz:=1) (by kernel_rfl) (by kernel_rfl) hf (by omega);have h1:=air (i:=1) (ty:=3) (off:=1) (sz:=1) (by kernel_rfl) (by kernel_rfl) hf (by omega);have h2:=air (i:=2) (ty:=3) (off:=2) (sz:=1) (by kernel_rfl) (by kernel_rfl) hf (by omega);have h3:=air (i:=3) (ty:=9) (off:=3) (sz:=1) (by kernel_rfl) (by kernel_rfl) hf (by omega)
  match xs,hlen,h0,h1,h2,h3 with
  |[y0,y1,y2,y3],_,h0,h1,h2,h3=>
   obtain⟨x0,r0,o0,b0,w0⟩:=aCl (t:=25) (e:=9) (sz:=1) (enc:=nh) (bk:=(fun m:Str=>m.length+1)) (wf:=(fun _=>True)) (by kernel_rfl) (by kernel_rfl) (by decide) (fun _=>rfl) (fun k hk cs x h=>aCk (t:=9) (by kernel_rfl) h) h0;obtain⟨x1,r1,o1,b1,w1⟩:=aCj (t:=3) (k:=.i64) (by kernel_rfl) h1;obtain⟨x2,r2,o2,b2,w2⟩:=aCj (t:=3) (k:=.i64) (by kernel_rfl) h2;obtain⟨x3,r3,o3,b3,w3⟩:=aCk (t:=9) (by kernel_rfl) h3;have b0:ae1 (fun m:Str=>m.length+1) x0<=Rows.uptoBulk y0.1:=b0;have b1:1<=Rows.uptoBulk y1.1:=b1;have b2:1<=Rows.uptoBulk y2.1:=b2;have b3:(x3.length+1)<=Rows.uptoBulk y3.1:=b3;refine⟨⟨x0,x1,x2,x3⟩,?_,?_,?_,?_⟩
   ·have hr:=(adX r0 (adX r1 (adX r2 (adX r3 (aFd hl)))));rw[gu]at hr;rw[jV.nV];simpa only[List.append_assoc,List.cons_append,List.nil_append,List.append_nil] using hr
   ·have ho:=(adY o0 (adY o1 (adY o2 (adY o3 (aFe hl)))));rw[gu]at ho;exact ho
   ·simp only[List.map_cons,List.map_nil,Rows.uptoBulk,Rows.uptoBulkAll,jV.aw1];omega
   ·exact⟨w0,w1,w2,w3,trivial⟩
open Go.Proofs Go.Proofs.YtdkeelhebopgkaaGreatDoor Go.RowKit
section
variable {H:Type} {enc:aMV×aMU->H}
def aoK{a:Assume}{C:Checked}{os:Os}{fn:Func}{s:OpenSpec}{k:(H:Type)->List (DataW H)->Bool}(hk:s.cond=some k){F:Stop.Interp}{conds:List PathCond}{apart fresh again:Bool}
 (own:ownKnob C.prog.godebug=none) (started:os.Started) (aHF:C.prog.inits.idxOf? f=none) (hfn:C.prog.funcs[f]? =some fn)
 (witness:∃(w:World)(tape:Tape)(i:Input),w.os=os/\(w.forCall tape i).Shaped C.prog/\i.vars=[]/\Input.okWide C.prog (w.forCall tape i) .any w.heap.size f i/\
   s.pre6 enc C.prog fn conds apart (w.forCall tape i).memory i.args/\a.holds C.prog (lone (Frame.enter C.prog f i.args .normal) [] (w.forCall tape i)))
 (contract:∀(aL6:World)(base:Nat)(args:Array aMU)(ds gs:List (DataW H))(before:List MemPlace),
   (∀(j:Nat) t v,fn.params[j]? =some t->args[j]? =some v->gj C.prog aL6 .any base t v)->
   DataW.Whole enc C.prog fn.params.toList s.vars apart aL6 args.toList ds gs before->
   conds.all (PathCond.test C.prog ⟨fn.params.toList,ds,s.bare.plain.varTypes C.prog,gs⟩)=true->k H (ds++gs)=true->aL6.ShapedOpen C.prog->
   Calls C.prog f args aL6 fun e aL7=>∃v,e=.returned v/\(s.at F).post enc C.prog fn apart fresh handsOn again aL6 args v aL7):
 ReturnsInHanded a C os f .any (s.pre6 enc C.prog fn conds apart) ((s.at F).post enc C.prog fn apart fresh handsOn again):=by
 refine returnsInHanded_of_calls own started aHF witness ?_;intro w tape i _ hsh _ L9 aLc aLd;obtain⟨_,_,_,fn',aLe,_,_,_,_,hval⟩:=L9;have e:fn'=fn:=Option.some.inj (aLe.symm.trans hfn);subst e;obtain⟨ds,gs,before,hw,hc,hkk⟩:=(OpenSpec.pre_some hk conds apart _ _).1 aLc.1;have hw':=DataW.Whole.of_heap (w':=w.forCall tape i) (by rfl) hw;refine(contract (w.forCall tape i) w.heap.size i.args ds gs before hval hw' hc hkk hsh).mono fun e aL7 ⟨v,he,hp⟩=>?_
 subst he;exact ChangeSpec.post_blind hp
end
section
variable {H:Type} {en:aMV×aMU->H} {P:Program} {aL7:World}
def ayq(aL6 aL7:World):Prop:=aL6.heap.size<=aL7.heap.size/\(∀b,b<aL6.heap.size->aL7.heap[b]? =aL6.heap[b]?)/\(∀x,x.block<aL6.heap.size->aL7.frozen? x=aL6.frozen? x)/\aL7.output=aL6.output/\aL7.os=aL6.os
def aFf(hk:ar2 aL6 (fun _ _=>False)){args:List AV}{X:AV}{vs:Array aMU}(h:Ku P f args (fun r=>r=X))(hr:kQ (ars P aL6) args vs.toList):
 Calls P f vs aL6 fun e aL7=>∃v U',e=.returned v/\pO ((aJG P aL6 hk).env U' [] aL7) X v/\ayq aL6 aL7:=by
 refine(h.2.2 (aJG P aL6 hk) (fun _=>undef) aL6 rfl rfl rfl (fun _ _ h=>h) vs hr).mono ?_;rintro e aL7 ⟨r,v,U',rfl,he,tP,h1,h2,h3,h4,h5⟩;exact⟨v,U',he,tP,h1,h2,h3,h4,h5⟩
def ayq.kept(h:ayq aL6 aL7)(may:MemPlace->Prop):aL6.keptBut aL7 may:=by
 obtain⟨h1,h2,h3,h4,h5⟩:=h;refine⟨h5,h4,fun i hi=>?_⟩;rw[h2 i hi];cases aL6.heap[i]? with
 |none=>rfl
 |some o=>
  cases o with
  |cells c t fr=>exact⟨rfl,rfl,rfl,fun _ _=>rfl⟩
  |map es clock=>exact .inr ⟨rfl,rfl⟩
  |_=>rfl
def aDe{enc:aMV×aMU->H}{f:Func}{s:ChangeSpec}{apart fresh again:Bool}{args:Array aMU}{ds gs:List (DataW H)}{before pa pv:List MemPlace}
 (hW:DataW.Whole enc P f.params.toList s.vars apart aL6 args.toList ds gs before)
 (auk:∀(b:Nat)(sp:Nat->Bool)(hd:Bool),DataW.TrodAll enc P aL7 b sp hd f.resultTypes.toList (v.resultList f.resultTypes.size) (s.fn H (ds++gs)).results [])
 (SF:∀sp:Nat->Bool,(∀p∈before,sp p.block=true)->DataW.TrodAll enc P aL7 0 sp true f.params.toList args.toList (s.fn H (ds++gs)).args pa)
 (aGe:∀sp:Nat->Bool,(∀p∈before,sp p.block=true)->DataW.TrodVars enc P aL7 sp s.vars (s.fn H (ds++gs)).vars pv)
 (hps:before=pa++pv) (hk:aL6.keptBut aL7 (· ∈before)) (hfz:∀a,a.block<aL6.heap.size->aL7.frozen? a=aL6.frozen? a)
 (L9:∀(j:Nat)(t:aMV)(r:aMU),f.resultTypes[j]? =some t->(v.resultList f.resultTypes.size)[j]? =some r->gj P aL7 .any 0 t r):
 s.post enc P f apart fresh handsOn again aL6 args v aL7:=by
 have hold:∀p∈before,(fun b=>decide (b<aL6.heap.size)) p.block=true:=fun p hp=>by simpa using hW.lt p hp
 have me:=hW.lt;refine⟨ds,gs,before,[],pa,pv,hW,auk _ _ _,SF _ hold,aGe _ hold,World.keptBut_mono (fun p hp=>⟨hp,?_⟩) hk,fun _=>?_⟩
 ·rw[hps,List.mem_append]at hp;exact Or.inr hp
 ·obtain⟨_,_,_,_,_,hz,hn⟩:=hW;refine⟨L9,_,_,([]++pa)++pv,⟨[]++pa,pv,Go.ChangeShapes.trodAll_append (SF _ (fun _ _=>rfl)) (auk _ _ _),aGe _ (fun _ _=>rfl),rfl,?_,?_⟩,?_⟩
  ·intro b off hp;have hp':MemPlace.cell b off∈before:=by rw[hps];simpa using hp
   rw[hfz _ (me _ hp')];exact hz b off hp'
  ·intro ha;have:=hn ha;rw[hps]at this;simpa using this
  ·intro p hp _;rw[hps];simpa using hp
def aH9(hl:laidOutB P=true)(hr:P.readableRec t=true)(aLf:t<P.types.size){d:DataW H}
 (h:gw en P aL6 0 (fun _=>true) true t v d ps) (hL:ayq aL6 aL7) (hs:∀p∈ps,sp p.block=true):gw en P aL7 0 sp true t v d ps:=by
 refine WideElems.Trod_stays hl hr aLf h (fun p hp=>?_) hs;obtain⟨n,hn⟩:=h;have hb:=DataW.trod_lt n t _ _ hn p hp;cases p with
 |cell b off=>
  have Gs:b<aL6.heap.size:=hb;show aL7.cell? ⟨b,off,none⟩=aL6.cell? ⟨b,off,none⟩;simp only[World.cell?,hL.2.1 b Gs]
 |map b=>exact hL.2.1 b hb
def aHG{e:W->List AV}{wf:W->Prop}{d:DataW H}(ht:P.underlying t=some (.struct fs))(hval:gj P aL6 .any base t v)
 (h:gw en P aL6 0 (fun _=>true) true t v d ps) (aCm:∀n cs x,gi en P aL6 0 (fun _=>true) true n t cs=some x->auj P aL6 e bk wf cs x.1):
 ∃x,pO (ars P aL6) (.agg (e x)) v/\bk x<=Rows.uptoBulk d/\wf x:=by
 obtain⟨cs,rfl,_⟩:=WideShapes.okWide_struct ht hval;obtain⟨n,hn⟩:=h;obtain⟨x,hr,_,hb,hw⟩:=aCm n _ _ hn;exact⟨x,⟨cs,rfl,hr⟩,hb,hw⟩
def aJH{e:W->AV}{wf:W->Prop}{d:DataW H}(hv:v.cells.toList=[v])
 (h:gw en P aL6 0 (fun _=>true) true t v d ps) (aCm:∀n cs x,gi en P aL6 0 (fun _=>true) true n t cs=some x->auj P aL6 (fun x=>[e x]) bk wf cs x.1):
 ∃x,pO (ars P aL6) (e x) v/\bk x<=Rows.uptoBulk d/\wf x:=by
 obtain⟨n,hn⟩:=h;obtain⟨x,hr,_,hb,hw⟩:=aCm n _ _ hn;rw[hv]at hr;obtain⟨u,us,he,h1,_⟩:=hr;simp only[List.cons.injEq]at he;obtain⟨rfl,_⟩:=he;exact⟨x,h1,hb,hw⟩
def aJI(ht:P.underlying t=some (.int k))(hval:gj P aL6 .any base t v):v.cells.toList=[v]:=by
 obtain⟨n,rfl⟩:=WideShapes.okWide_int ht hval;rfl
def aGf(ht:P.underlying t=some .string)(hval:gj P aL6 .any base t v):v.cells.toList=[v]:=by
 obtain⟨n,rfl⟩:=WideShapes.okWide_string ht hval;rfl
def aIa(ht:P.underlying t=some .bool)(hval:gj P aL6 .any base t v):v.cells.toList=[v]:=by
 obtain⟨n,rfl⟩:=WideShapes.okWide_bool ht hval;rfl
def aHH {e:aMV}(ht:P.underlying t=some (.slice e))(hval:gj P aL6 .any base t v):v.cells.toList=[v]:=by
 obtain⟨a,l,c,rfl⟩:=WideShapes.okWide_slice ht hval;rfl
def aHI(ht:∀fs,P.underlying t≠some (.struct fs))(ht':∀n e,P.underlying t≠some (.array n e))(hval:gj P aL6 .any base t v)(hv:∀cs,v≠ .agg cs):v.cells.toList=[v]:=by
 cases v<;>first|rfl|exact absurd rfl (hv _)
end
open Go.Proofs Go.Proofs.YtdkeelhebopgkaaGreatDoor Go.MakeChecks
def aLs(h:aL6.ShapedOpen Tryz.prog)(hl:laidMetH Tryz.prog Rows.parserSameRow.laid aL6):ar2 aL6 (fun _ _=>False):=by
 rintro b o (⟨rfl,rfl⟩|⟨rfl,ho⟩)
 ·obtain⟨m,hm⟩:=cell_of_shapedOpen_int (g:=1) (t:=3) (zero:= #[.int .i64 0]) (k:=.i64) h (of_decide_eq_true (by kernel_rfl)) (by kernel_rfl) rfl (by kernel_rfl) (by kernel_rfl) (by kernel_rfl);exact⟨_,hm,⟨fun _=>⟨m,rfl⟩,fun f=>by cases f⟩,fun f=>f⟩
 ·rw[laidMetH_plain _ _ _ (by kernel_rfl)]at hl;have hm:=(gk (gk (gk (gk (gk (gk (gk hl)))))));have e:(Rows.laid_strings_asciiSpace:DataW Unit)=Lib.tabData .u8 ((List.range 256).map alE):=by kernel_rfl
  rw[e]at hm;have ht:=Lib.tabIs_of_head (P:=Tryz.prog) (g:=0) (t:=212) (e:=5) (n:=256) (by kernel_rfl) (by kernel_rfl) (by kernel_rfl) (by kernel_rfl) (by kernel_rfl) (by kernel_rfl) hm;have hc:=ht.cell (g:=0) (by kernel_rfl) o (by simpa using ho)
  have hz:((List.range 256).map alE).getD o 0=alE o:=by
   rw[List.getD_eq_getElem?_getD,List.getElem?_map,List.getElem?_range ho];rfl
  rw[hz]at hc;exact⟨_,hc,⟨fun f=>(by cases f),fun _=>rfl⟩,fun f=>f⟩
end Go.Abs
namespace Go.Proofs.YtdkeelhebopgkaaGreatDoor
open Go.RowKit
abbrev aGg:List (String×DataW Unit):=[("math/bits.deBruijn32tab",Rows.laid_math_bits_deBruijn32tab),("math/bits.deBruijn64tab",Rows.laid_math_bits_deBruijn64tab),("internal/strconv.uint64pow10",Rows.laid_internal_strconv_uint64pow10),("unicode/utf8.acceptRanges",Rows.laid_unicode_utf8_acceptRanges),("strconv.ErrRange",Rows.laid_strconv_ErrRange),("strconv.ErrSyntax",Rows.laid_strconv_ErrSyntax),("unicode.White_Space",Rows.laid_unicode_White_Space),("strings.asciiSpace",Rows.laid_strings_asciiSpace),("unicode/utf8.first",Rows.laid_unicode_utf8_first)]
noncomputable def apy (os:Os):World:=World.laidAll Tryz.prog os aGg
def aFg(os:Os):(apy os).os=os:=World.laidAll_os _ _ _
def aJJ(os:Os)(args:Array aMU):laidMet Tryz.prog aGg ((apy os).forCall (fun _ _=>0) ⟨#[],args,[]⟩).memory:=
 laidMet_laidAll args (by kernel_rfl) (by kernel_rfl)
end Go.Proofs.YtdkeelhebopgkaaGreatDoor
