/- A part of the proof: reading of arguments. -/
import Derived.Test.YtpdbjkgnmjnebaaGreatDoorDataA
import Derived.Test.YtpdbjkgnmjnebaaGreatDoorRows
import Derived.ChangeArms
import Derived.WalkKit
import Derived.ProofKit
import Derived.OpenShut
import Derived.JoinedCond
import Derived.WideKeyArgs
import Derived.Carry
import Derived.Test.YtpdbjkgnmjnebaaGreatDoorCoreA
import Derived.Shelf.Vars
import Derived.Stop.LaidErr
import Derived.MakeChecks
import Derived.Lib.LaidTab
import Derived.Lib.ItoaNum
import Derived.Test.YtpdbjkgnmjnebaaGreatDoorCards
import Derived.Test.YtpdbjkgnmjnebaaGreatDoorTie
import Derived.Deep.DeepHandedRow
import Derived.Lay
import Derived.Deep.DeepWitnessRowRef
import Derived.Test.YtpdbjkgnmjnebaaGreatDoorWalkA
import Derived.Test.YtpdbjkgnmjnebaaGreatDoorWalkB
import Derived.Test.YtpdbjkgnmjnebaaGreatDoorWalkC
import Derived.Test.YtpdbjkgnmjnebaaGreatDoorWalkD
set_option linter.all false
open Go renaming Value→aKl,TypeId→aKm
open Go.laidMet renaming tail→gj
open Go.DataW renaming trod→gk,Trod→gy
open Go.Value renaming okWide→gp,oneCell'→gu
open List renaming getElem?_eq_getElem→gq,drop_of_length_le→gv,drop_zero→gw,take_append_drop→gx
open Go.Proofs.Tryz renaming prog→gr
namespace Go.Abs
variable {fs:Array Field}{handsOn:Bool}{E:Dw}{f:FuncId}{k:IntKind}{ps:List MemPlace}{cs:List aKl}{base i n o off:Nat}{sp:Nat->Bool}{W:Type}{t:aKm}{v:aKl}{aJx:World}{bk:W->Nat}
open Go.Proofs.YtpdbjkgnmjnebaaGreatDoor
def aG5(P:Program)(aJx:World)(hk:aoZ aJx (fun _ _=>False)):qu:={P,w0:=aJx,M0:=fun _ _=>False,A:=fun _ _=>False,hA:=fun _ _ h=>h.elim,hk}
def aoz(P:Program)(aJx:World):Dw:={w:=aJx,mu:=fun b o=>F8 (fun _=>undef) [] b o\/False,U:=fun _=>undef,ln:=fun l=>lZ ([]:List jT)[l]?,n:=0}
def aCi{P:Program}(b o:Nat): ¬ (aoz P aJx).mu b o:=by
 simp only[aoz];rintro(⟨l,x,hx,_⟩|h)
 ·simp at hx
 ·exact h
section
variable {H:Type} {en:aKm×aKl->H} {P:Program} {held:Bool}
def wfI(k:IntKind)(n:Int):Prop:=(Lit.int k n).wf=true
def aHC{n:Int}(h:wfI .i64 n): -9223372036854775808<=n/\n<=9223372036854775807:=by
 simpa [wfI,Lit.wf,IntKind.min,IntKind.max,IntKind.signed,IntKind.bits] using h
def aIw{n:Int}(h:wfI .u8 n):0<=n/\n<=255:=by
 simpa [wfI,Lit.wf,IntKind.min,IntKind.max,IntKind.signed,IntKind.bits] using h
def arc(P:Program)(aJx:World)(e:W->List AV)(bk:W->Nat)(wf:W->Prop)(cs:List aKl)(d:DataW H):Prop:=
 ∃x,ko (aoz P aJx) (e x) cs/\(∀u∈cs,u.oneCell'=true)/\bk x<=Rows.uptoBulk d/\wf x
def azm{x:DataW H×List MemPlace}(ht:P.underlying t=some (.int k))(h:gk en P aJx 0 sp held n t cs=some x):
 arc P aJx (fun m:Int=>[.int k m]) (fun _=>1) (wfI k) cs x.1:=by
 obtain⟨m,rfl,rfl,hw⟩:=DataW.trod_int ht h;exact⟨m,⟨_,[],rfl,rfl,rfl⟩,by simp [gu],by simp [Rows.uptoBulk],hw⟩
def aHD{x:DataW H×List MemPlace}(ht:P.underlying t=some .bool)(h:gk en P aJx 0 sp held n t cs=some x):
 arc P aJx (fun m:Bool=>[.bool m]) (fun _=>1) (fun _=>True) cs x.1:=by
 obtain⟨m,rfl,rfl⟩:=DataW.trod_bool ht h;exact⟨m,⟨_,[],rfl,rfl,rfl⟩,by simp [gu],by simp [Rows.uptoBulk],trivial⟩
def azn{x:DataW H×List MemPlace}(ht:P.underlying t=some .string)(h:gk en P aJx 0 sp held n t cs=some x):
 arc P aJx (fun m:Str=>[.str (sb m)]) (fun m=>m.length+1) (fun _=>True) cs x.1:=by
 obtain⟨s,rfl,rfl,_⟩:=DataW.trod_string ht h;exact⟨s.data.toList,⟨_,[],rfl,by rw[anU];rfl,rfl⟩,by simp [gu],by simp [Rows.uptoBulk],trivial⟩
def adl{W:Type}(bk:W->Nat):List W->Nat
 |[]=>1
 |x::xs=>bk x+adl bk xs
theorem akr{W:Type}{bk:W->Nat}:∀xs:List W,1<=adl bk xs
 |[]=>Nat.le_refl _
 |_::xs=>by have:=akr (bk:=bk) xs;simp only[adl];omega
def am0{b:Nat}:∀{cs:List AV}{vs:List aKl}{off:Nat},ko (aoz P aJx) cs vs->(∀u∈vs,u.oneCell'=true)->(∀j u,vs[j]? =some u->aJx.cell? ⟨b,off+j,none⟩=some u)->oz (aoz P aJx) b off cs
 |[],_,_,_,_,_=>trivial
 |c::cs,_,off,⟨u,us,rfl,r1,r2⟩,h1,h2=>by
  refine⟨⟨aCi b off,u,h2 0 u (by simp),h1 u (by simp),r1⟩,am0 r2 (fun v hv=>h1 v (by simp [hv])) (fun j v hj=>?_)⟩;rw[<-h2 (j+1) v (by simpa using hj)];congr 2;omega
def azo {e:aKm}{sz:Nat}{enc:W->List AV}{wf:W->Prop}(ht:P.underlying t=some (.slice e))(hsz:P.cellsOf e=sz)(ala:0<sz)(hl: ∀x,(enc x).length=sz) (ih: ∀m,m<n-> ∀cs x,gk en P aJx 0 sp held m e cs=some x->arc P aJx enc bk wf cs x.1) {x:DataW H×List MemPlace} (h:gk en P aJx 0 sp held n t cs=some x):
 arc P aJx (fun xs:List W=>[.kW false sz (mp enc xs)]) (adl bk) (fun xs=>∀y∈xs,wf y) cs x.1:=by
 rcases DataW.trod_slice ht h with⟨rfl,rfl⟩|⟨a,len,cap,elems,rest,m,hm,rfl,rfl,hb,hlc,hmx,hlen,hel,hsp,hns⟩
 ·refine⟨[],⟨_,[],rfl,?_,rfl⟩,by simp [gu],by simp [Rows.uptoBulk,adl],by simp⟩;rw[qD];exact⟨none,0,rfl,Nat.le_refl _,(by intro h;cases h),fun _=>rfl,(by intro a h;cases h),(by intro a h;cases h)⟩
 ·subst hsz
  have key:∀(k i:Nat),i+k=len->∃xs:List W,xs.length=k/\nS (aoz P aJx) (P.cellsOf e) a.block (a.off+i*P.cellsOf e) (mp enc xs)/\adl bk xs<=Rows.uptoBulkAll ((elems.drop i).map (·.1))+1/\(∀y∈xs,wf y)/\(0<k->i=0->a.spot=none):=by
   intro k;induction k with
   |zero=>
    intro i hi;refine⟨[],rfl,by rw[qD];trivial,?_,by simp,by omega⟩;simp [adl]
   |succ k ihk=>
    intro i hi;obtain⟨xs,hxl,L8,aDk,hwf,_⟩:=ihk (i+1) (by omega);have hi':i<elems.length:=by omega
    have he:=hel i (by omega);rw[gq hi']at he;obtain⟨vs,hvs,htr⟩:=Option.bind_eq_some_iff.1 he;obtain⟨y,hy,h1,hbk,hw⟩:=ih m (by omega) vs _ htr;obtain⟨_,hvl,tO⟩:=World.cells?_some hvs
    have ahv:(a.add (i*P.cellsOf e)).spot=none:=by
     have h0:=tO 0 ala;have hv0:vs[0]? =some vs[0]:=gq (by omega);rw[hv0]at h0;unfold World.cell? at h0;have:(a.add (i*P.cellsOf e)).add 0=a.add (i*P.cellsOf e):=by unfold Addr.add;simp
     rw[this]at h0;split at h0
     ·split at h0
      ·cases h0
      ·rename_i hs;simpa using hs
     ·cases h0
    have aIx:a.add (i*P.cellsOf e)=⟨a.block,a.off+i*P.cellsOf e,none⟩:=by
     unfold Addr.add at ahv ⊢;split
     ·rename_i h0;rw[if_pos h0]at ahv;cases a;simp_all
     ·rfl
    refine⟨y::xs,by simp [hxl],?_,?_,?_,?_⟩
    ·rw[qD]at L8 ⊢;refine⟨hl y,am0 hy h1 (fun j u hj=>?_),?_⟩
     ·have hj':j<P.cellsOf e:=by rw[<-hvl];exact(List.getElem?_eq_some_iff.1 hj).1
      have:=tO j hj';rw[hj,aIx,Aa]at this;exact this
     ·have e2:a.off+i*P.cellsOf e+P.cellsOf e=a.off+(i+1)*P.cellsOf e:=by rw[Nat.add_mul];omega
      rw[e2];exact L8
    ·have e3:elems.drop i=elems[i]::elems.drop (i+1):=List.drop_eq_getElem_cons hi';rw[e3];simp only[List.map_cons,Rows.uptoBulkAll,adl];omega
    ·intro z hz;simp only[List.mem_cons]at hz;rcases hz with rfl|hz
     ·exact hw
     ·exact hwf z hz
    ·intro _ h0;subst h0;rw[Nat.zero_mul]at ahv;simpa [Addr.add] using ahv
  obtain⟨xs,hxl,L8,aDk,hwf,ahv⟩:=key len 0 (by omega);refine⟨xs,⟨_,[],rfl,?_,rfl⟩,by simp [gu],?_,hwf⟩
  ·refine⟨some a,cap,by rw[M3,hxl],by rw[M3,hxl];exact hlc,(by intro h;cases h),(by intro h;cases h),?_,?_⟩
   ·intro a' ha sA;cases ha
    have:0<len:=by
     rw[<-hxl,<-M3 enc xs];exact List.length_pos_iff.2 sA
    exact ahv this rfl
   ·intro a' ha;cases ha;simpa using L8
  ·simp only[gw]at aDk;simp only[Rows.uptoBulk];omega
def fld {ty:Nat}(h:(fs[i]?).map (fun f=>(f.type,f.offset))=some (ty,off)):∃f,fs[i]? =some f/\f.type=ty/\f.offset=off:=by
 cases hf:fs[i]? with
 |none=>rw[hf]at h;cases h
 |some f=>rw[hf]at h;cases h;exact⟨f,rfl,rfl,rfl⟩
def afT {ty:Nat}{m sz:Nat}{xs:List (DataW H×List MemPlace)}(h:(fs[i]?).map (fun f=>(f.type,f.offset))=some (ty,off))(hsz:P.cellsOf ty=sz)
 (hf:∀(i:Nat)(f:Field),fs[i]? =some f->gk en P aJx 0 sp held m f.type ((cs.drop f.offset).take (P.cellsOf f.type))=xs[i]?) (hi:i<xs.length):gk en P aJx 0 sp held m ty ((cs.drop off).take sz)=some xs[i]:=by
 obtain⟨f,h1,rfl,rfl⟩:=fld h;rw[<-hsz,hf i f h1,gq hi]
def acw{a b:List AV}{s:Nat}(h1:ko E a ((cs.drop o).take s))(h2:ko E b (cs.drop (o+s))):ko E (a++b) (cs.drop o):=by
 have:=ko.append h1 h2;rw[<-List.drop_drop,gx]at this;exact this
def acy {s:Nat}(h1:∀u∈(cs.drop o).take s,u.oneCell'=true)(h2:∀u∈cs.drop (o+s),u.oneCell'=true):∀u∈cs.drop o,u.oneCell'=true:=by
 intro u hu;rw[<-gx s (cs.drop o),List.mem_append,List.drop_drop]at hu;rcases hu with hu|hu
 ·exact h1 u hu
 ·exact h2 u hu
def aCj(h:cs.length=o):ko E [] (cs.drop o):=by
 rw[gv (by omega)];rfl
def aCk(h:cs.length=o):∀u∈cs.drop o,u.oneCell'=true:=by
 rw[gv (by omega)];simp
end
open Go.Proofs
open Go.Proofs.YtpdbjkgnmjnebaaGreatDoor
set_option maxRecDepth 100000
def jI.ard(x:jI):Nat:=adl (fun m:Str=>m.length+1) x.parts+(1+(1+((x.target.length+1)+1)))
def jI.wf(x:jI):Prop:=(∀y∈x.parts,True)/\wfI .i64 x.mW/\wfI .i64 x.DD/\True/\True
def jI.read{H:Type}{en:aKm×aKl->H}{held:Bool}:∀(n:Nat)(cs:List aKl)(x:DataW H×List MemPlace),gk en gr aJx 0 sp held n 25 cs=some x->arc gr aJx jI.cells jI.ard jI.wf cs x.1
 |n,cs,x,h=>by
  obtain⟨xs,m,hm,rfl,hl,hlen,hf⟩:=DataW.trod_struct (fs:=Tryz.prog.fieldsOf 25) (by kernel_rfl) h;have hsz:Tryz.prog.cellsOf 25=4:=by kernel_rfl
  have hfs:(Tryz.prog.fieldsOf 25).size=4:=by kernel_rfl
  rw[hsz]at hl;rw[hfs]at hlen;have h0:=afT (i:=0) (ty:=23) (off:=0) (sz:=1) (by kernel_rfl) (by kernel_rfl) hf (by omega);have h1:=afT (i:=1) (ty:=3) (off:=1) (sz:=1) (by kernel_rfl) (by kernel_rfl) hf (by omega);have h2:=afT (i:=2) (ty:=3) (off:=2) (sz:=1) (by kernel_rfl) (by kernel_rfl) hf (by omega);have h3:=afT (i:=3) (ty:=9) (off:=3) (sz:=1) (by kernel_rfl) (by kernel_rfl) hf (by omega)
  match xs,hlen,h0,h1,h2,h3 with
  |[y0,y1,y2,y3],_,h0,h1,h2,h3=>
   obtain⟨x0,r0,o0,b0,w0⟩:=azo (t:=23) (e:=9) (sz:=1) (enc:=nY) (bk:=(fun m:Str=>m.length+1)) (wf:=(fun _=>True)) (by kernel_rfl) (by kernel_rfl) (by decide) (fun _=>rfl) (fun k hk cs x h=>azn (t:=9) (by kernel_rfl) h) h0;obtain⟨x1,r1,o1,b1,w1⟩:=azm (t:=3) (k:=.i64) (by kernel_rfl) h1;obtain⟨x2,r2,o2,b2,w2⟩:=azm (t:=3) (k:=.i64) (by kernel_rfl) h2;obtain⟨x3,r3,o3,b3,w3⟩:=azn (t:=9) (by kernel_rfl) h3;have b0:adl (fun m:Str=>m.length+1) x0<=Rows.uptoBulk y0.1:=b0;have b1:1<=Rows.uptoBulk y1.1:=b1;have b2:1<=Rows.uptoBulk y2.1:=b2;have b3:(x3.length+1)<=Rows.uptoBulk y3.1:=b3;refine⟨⟨x0,x1,x2,x3⟩,?_,?_,?_,?_⟩
   ·have hr:=(acw r0 (acw r1 (acw r2 (acw r3 (aCj hl)))));rw[gw]at hr;rw[jI.lO];simpa only[List.append_assoc,List.cons_append,List.nil_append,List.append_nil] using hr
   ·have ho:=(acy o0 (acy o1 (acy o2 (acy o3 (aCk hl)))));rw[gw]at ho;exact ho
   ·simp only[List.map_cons,List.map_nil,Rows.uptoBulk,Rows.uptoBulkAll,jI.ard];omega
   ·exact⟨w0,w1,w2,w3,trivial⟩
open Go.Proofs Go.Proofs.YtpdbjkgnmjnebaaGreatDoor Go.RowKit
section
variable {H:Type} {enc:aKm×aKl->H}
def al4{a:Assume}{C:Checked}{os:Os}{fn:Func}{s:OpenSpec}{k:(H:Type)->List (DataW H)->Bool}(hk:s.cond=some k){F:Stop.Interp}{conds:List PathCond}{apart fresh again:Bool}
 (own:ownKnob C.prog.godebug=none) (started:os.Started) (aEP:C.prog.inits.idxOf? f=none) (hfn:C.prog.funcs[f]? =some fn)
 (witness:∃(w:World)(tape:Tape)(i:Input),w.os=os/\(w.forCall tape i).Shaped C.prog/\i.vars=[]/\Input.okWide C.prog (w.forCall tape i) .any w.heap.size f i/\
   s.pre6 enc C.prog fn conds apart (w.forCall tape i).memory i.args/\a.holds C.prog (lone (Frame.enter C.prog f i.args .normal) [] (w.forCall tape i)))
 (contract:∀(aJx:World)(base:Nat)(args:Array aKl)(ds gs:List (DataW H))(before:List MemPlace),
   (∀(j:Nat) t v,fn.params[j]? =some t->args[j]? =some v->gp C.prog aJx .any base t v)->
   DataW.Whole enc C.prog fn.params.toList s.vars apart aJx args.toList ds gs before->
   conds.all (PathCond.test C.prog ⟨fn.params.toList,ds,s.bare.plain.varTypes C.prog,gs⟩)=true->k H (ds++gs)=true->aJx.ShapedOpen C.prog->
   Calls C.prog f args aJx fun e aJy=>∃v,e=.returned v/\(s.at F).post enc C.prog fn apart fresh handsOn again aJx args v aJy):
 ReturnsInHanded a C os f .any (s.pre6 enc C.prog fn conds apart) ((s.at F).post enc C.prog fn apart fresh handsOn again):=by
 refine returnsInHanded_of_calls own started aEP witness ?_;intro w tape i _ hsh _ LX aIy aIz;obtain⟨_,_,_,fn',aIA,_,_,_,_,hval⟩:=LX;have e:fn'=fn:=Option.some.inj (aIA.symm.trans hfn);subst e;obtain⟨ds,gs,before,hw,hc,hkk⟩:=(OpenSpec.pre_some hk conds apart _ _).1 aIy.1;have hw':=DataW.Whole.of_heap (w':=w.forCall tape i) (by rfl) hw;refine(contract (w.forCall tape i) w.heap.size i.args ds gs before hval hw' hc hkk hsh).mono fun e aJy ⟨v,he,hp⟩=>?_
 subst he;exact ChangeSpec.post_blind hp
end
section
variable {H:Type} {en:aKm×aKl->H} {P:Program} {aJy:World}
def avi(aJx aJy:World):Prop:=aJx.heap.size<=aJy.heap.size/\(∀b,b<aJx.heap.size->aJy.heap[b]? =aJx.heap[b]?)/\(∀x,x.block<aJx.heap.size->aJy.frozen? x=aJx.frozen? x)/\aJy.output=aJx.output/\aJy.os=aJx.os
def aCl(hk:aoZ aJx (fun _ _=>False)){args:List AV}{X:AV}{vs:Array aKl}(h:KD P f args (fun r=>r=X))(hr:ko (aoz P aJx) args vs.toList):
 Calls P f vs aJx fun e aJy=>∃v U',e=.returned v/\pg ((aG5 P aJx hk).env U' [] aJy) X v/\avi aJx aJy:=by
 refine(h.2.2 (aG5 P aJx hk) (fun _=>undef) aJx rfl rfl rfl (fun _ _ h=>h) vs hr).mono ?_;rintro e aJy ⟨r,v,U',rfl,he,ui,h1,h2,h3,h4,h5⟩;exact⟨v,U',he,ui,h1,h2,h3,h4,h5⟩
def avi.kept(h:avi aJx aJy)(may:MemPlace->Prop):aJx.keptBut aJy may:=by
 obtain⟨h1,h2,h3,h4,h5⟩:=h;refine⟨h5,h4,fun i hi=>?_⟩;rw[h2 i hi];cases aJx.heap[i]? with
 |none=>rfl
 |some o=>
  cases o with
  |cells c t fr=>exact⟨rfl,rfl,rfl,fun _ _=>rfl⟩
  |map es clock=>exact .inr ⟨rfl,rfl⟩
  |_=>rfl
def aAe{enc:aKm×aKl->H}{f:Func}{s:ChangeSpec}{apart fresh again:Bool}{args:Array aKl}{ds gs:List (DataW H)}{before pa pv:List MemPlace}
 (hW:DataW.Whole enc P f.params.toList s.vars apart aJx args.toList ds gs before)
 (are:∀(b:Nat)(sp:Nat->Bool)(hd:Bool),DataW.TrodAll enc P aJy b sp hd f.resultTypes.toList (v.resultList f.resultTypes.size) (s.fn H (ds++gs)).results [])
 (Sf:∀sp:Nat->Bool,(∀p∈before,sp p.block=true)->DataW.TrodAll enc P aJy 0 sp true f.params.toList args.toList (s.fn H (ds++gs)).args pa)
 (aDl:∀sp:Nat->Bool,(∀p∈before,sp p.block=true)->DataW.TrodVars enc P aJy sp s.vars (s.fn H (ds++gs)).vars pv)
 (hps:before=pa++pv) (hk:aJx.keptBut aJy (· ∈before)) (hfz:∀a,a.block<aJx.heap.size->aJy.frozen? a=aJx.frozen? a)
 (LX:∀(j:Nat)(t:aKm)(r:aKl),f.resultTypes[j]? =some t->(v.resultList f.resultTypes.size)[j]? =some r->gp P aJy .any 0 t r):
 s.post enc P f apart fresh handsOn again aJx args v aJy:=by
 have hold:∀p∈before,(fun b=>decide (b<aJx.heap.size)) p.block=true:=fun p hp=>by simpa using hW.lt p hp
 have mR:=hW.lt;refine⟨ds,gs,before,[],pa,pv,hW,are _ _ _,Sf _ hold,aDl _ hold,World.keptBut_mono (fun p hp=>⟨hp,?_⟩) hk,fun _=>?_⟩
 ·rw[hps,List.mem_append]at hp;exact Or.inr hp
 ·obtain⟨_,_,_,_,_,hz,hn⟩:=hW;refine⟨LX,_,_,([]++pa)++pv,⟨[]++pa,pv,Go.ChangeShapes.trodAll_append (Sf _ (fun _ _=>rfl)) (are _ _ _),aDl _ (fun _ _=>rfl),rfl,?_,?_⟩,?_⟩
  ·intro b off hp;have hp':MemPlace.cell b off∈before:=by rw[hps];simpa using hp
   rw[hfz _ (mR _ hp')];exact hz b off hp'
  ·intro ha;have:=hn ha;rw[hps]at this;simpa using this
  ·intro p hp _;rw[hps];simpa using hp
def aFo(hl:laidOutB P=true)(hr:P.readableRec t=true)(aCb:t<P.types.size){d:DataW H}
 (h:gy en P aJx 0 (fun _=>true) true t v d ps) (hL:avi aJx aJy) (hs:∀p∈ps,sp p.block=true):gy en P aJy 0 sp true t v d ps:=by
 refine WideElems.Trod_stays hl hr aCb h (fun p hp=>?_) hs;obtain⟨n,hn⟩:=h;have hb:=DataW.trod_lt n t _ _ hn p hp;cases p with
 |cell b off=>
  have qR:b<aJx.heap.size:=hb;show aJy.cell? ⟨b,off,none⟩=aJx.cell? ⟨b,off,none⟩;simp only[World.cell?,hL.2.1 b qR]
 |map b=>exact hL.2.1 b hb
def aEQ{e:W->List AV}{wf:W->Prop}{d:DataW H}(ht:P.underlying t=some (.struct fs))(hval:gp P aJx .any base t v)
 (h:gy en P aJx 0 (fun _=>true) true t v d ps) (azp:∀n cs x,gk en P aJx 0 (fun _=>true) true n t cs=some x->arc P aJx e bk wf cs x.1):
 ∃x,pg (aoz P aJx) (.agg (e x)) v/\bk x<=Rows.uptoBulk d/\wf x:=by
 obtain⟨cs,rfl,_⟩:=WideShapes.okWide_struct ht hval;obtain⟨n,hn⟩:=h;obtain⟨x,hr,_,hb,hw⟩:=azp n _ _ hn;exact⟨x,⟨cs,rfl,hr⟩,hb,hw⟩
def aG6{e:W->AV}{wf:W->Prop}{d:DataW H}(hv:v.cells.toList=[v])
 (h:gy en P aJx 0 (fun _=>true) true t v d ps) (azp:∀n cs x,gk en P aJx 0 (fun _=>true) true n t cs=some x->arc P aJx (fun x=>[e x]) bk wf cs x.1):
 ∃x,pg (aoz P aJx) (e x) v/\bk x<=Rows.uptoBulk d/\wf x:=by
 obtain⟨n,hn⟩:=h;obtain⟨x,hr,_,hb,hw⟩:=azp n _ _ hn;rw[hv]at hr;obtain⟨u,us,he,h1,_⟩:=hr;simp only[List.cons.injEq]at he;obtain⟨rfl,_⟩:=he;exact⟨x,h1,hb,hw⟩
def aG7(ht:P.underlying t=some (.int k))(hval:gp P aJx .any base t v):v.cells.toList=[v]:=by
 obtain⟨n,rfl⟩:=WideShapes.okWide_int ht hval;rfl
def aDm(ht:P.underlying t=some .string)(hval:gp P aJx .any base t v):v.cells.toList=[v]:=by
 obtain⟨n,rfl⟩:=WideShapes.okWide_string ht hval;rfl
def aFp(ht:P.underlying t=some .bool)(hval:gp P aJx .any base t v):v.cells.toList=[v]:=by
 obtain⟨n,rfl⟩:=WideShapes.okWide_bool ht hval;rfl
def aER {e:aKm}(ht:P.underlying t=some (.slice e))(hval:gp P aJx .any base t v):v.cells.toList=[v]:=by
 obtain⟨a,l,c,rfl⟩:=WideShapes.okWide_slice ht hval;rfl
def aES(ht:∀fs,P.underlying t≠some (.struct fs))(ht':∀n e,P.underlying t≠some (.array n e))(hval:gp P aJx .any base t v)(hv:∀cs,v≠ .agg cs):v.cells.toList=[v]:=by
 cases v<;>first|rfl|exact absurd rfl (hv _)
end
open Go.Proofs Go.Proofs.YtpdbjkgnmjnebaaGreatDoor Go.MakeChecks
def aIP(h:aJx.ShapedOpen gr)(hl:laidMetH gr Rows.topNotationsApartRow.laid aJx):aoZ aJx (fun _ _=>False):=by
 refine⟨?_,?_⟩;rintro b o (⟨rfl,rfl⟩|⟨rfl,ho⟩)
 ·obtain⟨m,hm⟩:=cell_of_shapedOpen_int (g:=0) (t:=3) (zero:= #[.int .i64 0]) (k:=.i64) h (of_decide_eq_true (by kernel_rfl)) (by kernel_rfl) rfl (by kernel_rfl) (by kernel_rfl) (by kernel_rfl);exact⟨_,hm,⟨fun _=>⟨m,rfl⟩,fun f=>by cases f⟩,fun f=>f⟩
 ·rw[laidMetH_plain _ _ _ (by kernel_rfl)]at hl;have hm:=(gj (gj (gj (gj (gj (gj (gj hl)))))));have e:(Rows.laid_strings_asciiSpace:DataW Unit)=Lib.tabData .u8 ((List.range 256).map aiV):=by kernel_rfl
  rw[e]at hm;have ht:=Lib.tabIs_of_head (P:=gr) (g:=1) (t:=330) (e:=5) (n:=256) (by kernel_rfl) (by kernel_rfl) (by kernel_rfl) (by kernel_rfl) (by kernel_rfl) (by kernel_rfl) hm;have hc:=ht.cell (g:=1) (by kernel_rfl) o (by simpa using ho)
  have hz:((List.range 256).map aiV).getD o 0=aiV o:=by
   rw[List.getD_eq_getElem?_getD,List.getElem?_map,List.getElem?_range ho];rfl
  rw[hz]at hc;exact⟨_,hc,⟨fun f=>(by cases f),fun _=>rfl⟩,fun f=>f⟩
 ·rintro b rfl;refine⟨fun _ f=>f,?_⟩;rw[laidMetH_plain _ _ _ (by kernel_rfl)]at hl;have hm:=(gj (gj hl));have e:(Rows.laid_internal_strconv_uint64pow10:DataW Unit)=Lib.tabData .u64 Lib.pow10Tab:=by kernel_rfl
  rw[e] at hm;have ht:=Lib.tabIs_of_head (P:=gr) (g:=3) (t:=370) (e:=352) (n:=20) (by kernel_rfl) (by kernel_rfl) (by kernel_rfl) (by kernel_rfl) (by kernel_rfl) (by kernel_rfl) hm;unfold Lib.TabIs World.var? at ht;rw[show Tryz.prog.globalNamed "internal/strconv.uint64pow10" =some 3 by kernel_rfl,Option.bind_some] at ht;split at ht
  ·rename_i cs t fz hh;exact⟨t,fz,by rw[hh,Option.some.inj ht];rfl⟩
  ·cases ht
end Go.Abs
namespace Go.Proofs.YtpdbjkgnmjnebaaGreatDoor
open Go.RowKit
abbrev aDn:List (String×DataW Unit):=[("math/bits.deBruijn32tab",Rows.laid_math_bits_deBruijn32tab),("math/bits.deBruijn64tab",Rows.laid_math_bits_deBruijn64tab),("internal/strconv.uint64pow10",Rows.laid_internal_strconv_uint64pow10),("unicode/utf8.acceptRanges",Rows.laid_unicode_utf8_acceptRanges),("strconv.ErrRange",Rows.laid_strconv_ErrRange),("strconv.ErrSyntax",Rows.laid_strconv_ErrSyntax),("unicode.White_Space",Rows.laid_unicode_White_Space),("strings.asciiSpace",Rows.laid_strings_asciiSpace),("unicode/utf8.first",Rows.laid_unicode_utf8_first)]
noncomputable def am1 (os:Os):World:=World.laidAll gr os aDn
def aCm(os:Os):(am1 os).os=os:=World.laidAll_os _ _ _
def aG8(os:Os)(args:Array aKl):laidMet gr aDn ((am1 os).forCall (fun _ _=>0) ⟨#[],args,[]⟩).memory:=
 laidMet_laidAll args (by kernel_rfl) (by kernel_rfl)
end Go.Proofs.YtpdbjkgnmjnebaaGreatDoor
