/- A part of the proof: reading of arguments. -/
import Derived.Test.YtdkeelhebopgkaaGreatDoorDataA
import Derived.Test.YtdkeelhebopgkaaGreatDoorRows
import Derived.ChangeArms
import Derived.WalkKit
import Derived.ProofKit
import Derived.OpenShut
import Derived.JoinedCond
import Derived.WideKeyArgs
import Derived.Carry
import Derived.Test.YtdkeelhebopgkaaGreatDoorCoreA
import Derived.Shelf.Vars
import Derived.Stop.LaidErr
import Derived.MakeChecks
import Derived.Lib.LaidTab
import Derived.Test.YtdkeelhebopgkaaGreatDoorCards
import Derived.Test.YtdkeelhebopgkaaGreatDoorTie
import Derived.Deep.DeepHandedRow
import Derived.Lay
import Derived.Deep.DeepWitnessRowRef
import Derived.Test.YtdkeelhebopgkaaGreatDoorWalkA
import Derived.Test.YtdkeelhebopgkaaGreatDoorWalkB
import Derived.Test.YtdkeelhebopgkaaGreatDoorWalkC
set_option linter.all false
open Go.DataW renaming trod → fR,Trod → ga
open Go.Value renaming okWide → fS,oneCell' → fV
open Go.laidMet renaming tail → fT
open List renaming getElem?_eq_getElem → fU,drop_of_length_le → fW,drop_zero → fY,take_append_drop → fZ
namespace Go.Abs
variable {fs:Array Field}{handsOn:Bool}{E:Env}{f:FuncId}{k:IntKind}{ps:List MemPlace}{cs:List Value}{base i n o off:Nat}{sp:Nat->Bool}{α:Type}{t:TypeId}{v:Value}{W:World}{bk:α->Nat}
open Go.Proofs.YtdkeelhebopgkaaGreatDoor
def ayY(P:Program)(W:World)(hk:ahD W (fun _ _=>False)):o9:={P,w0:=W,M0:=fun _ _=>False,A:=fun _ _=>False,hA:=fun _ _ h=>h.elim,hk}
def ag4(P:Program)(W:World):Env:={w:=W,mu:=fun b o=>Dq (fun _=>undef) [] b o\/False,φ:=fun _=>undef,ln:=fun l=>lr ([]:List jS)[l]?,n:=0}
def aus{P:Program}(b o:Nat): ¬ (ag4 P W).mu b o:=by
 simp only[ag4];rintro(⟨l,x,hx,_⟩|h)
 ·simp at hx
 ·exact h
section
variable {H:Type} {en:TypeId×Value->H} {P:Program} {held:Bool}
def wfI(k:IntKind)(n:Int):Prop:=(Lit.int k n).wf=true
def azq{n:Int}(h:wfI .i64 n): -9223372036854775808<=n/\n<=9223372036854775807:=by
 simpa [wfI,Lit.wf,IntKind.min,IntKind.max,IntKind.signed,IntKind.bits] using h
def aw3{n:Int}(h:wfI .u8 n):0<=n/\n<=255:=by
 simpa [wfI,Lit.wf,IntKind.min,IntKind.max,IntKind.signed,IntKind.bits] using h
def ajG(P:Program)(W:World)(e:α->List AV)(bk:α->Nat)(wf:α->Prop)(cs:List Value)(d:DataW H):Prop:=
 ∃x,kf (ag4 P W) (e x) cs/\(∀u∈cs,u.oneCell'=true)/\bk x<=Rows.uptoBulk d/\wf x
def aru{x:DataW H×List MemPlace}(ht:P.underlying t=some (.int k))(h:fR en P W 0 sp held n t cs=some x):
 ajG P W (fun m:Int=>[.int k m]) (fun _=>1) (wfI k) cs x.1:=by
 obtain⟨m,rfl,rfl,hw⟩:=DataW.trod_int ht h;exact⟨m,⟨_,[],rfl,rfl,rfl⟩,by simp [fV],by simp [Rows.uptoBulk],hw⟩
def azr{x:DataW H×List MemPlace}(ht:P.underlying t=some .bool)(h:fR en P W 0 sp held n t cs=some x):
 ajG P W (fun m:Bool=>[.bool m]) (fun _=>1) (fun _=>True) cs x.1:=by
 obtain⟨m,rfl,rfl⟩:=DataW.trod_bool ht h;exact⟨m,⟨_,[],rfl,rfl,rfl⟩,by simp [fV],by simp [Rows.uptoBulk],trivial⟩
def arv{x:DataW H×List MemPlace}(ht:P.underlying t=some .string)(h:fR en P W 0 sp held n t cs=some x):
 ajG P W (fun m:Str=>[.str (sb m)]) (fun m=>m.length+1) (fun _=>True) cs x.1:=by
 obtain⟨s,rfl,rfl,_⟩:=DataW.trod_string ht h;exact⟨s.data.toList,⟨_,[],rfl,by rw[agp];rfl,rfl⟩,by simp [fV],by simp [Rows.uptoBulk],trivial⟩
def GS{α:Type}(bk:α->Nat):List α->Nat
 |[]=>1
 |x::xs=>bk x+GS bk xs
theorem adq{α:Type}{bk:α->Nat}: ∀xs:List α,1<=GS bk xs
 |[]=>Nat.le_refl _
 |_::xs=>by have:=adq (bk:=bk) xs;simp only[GS];omega
def afA{b:Nat}: ∀{cs:List AV}{vs:List Value}{off:Nat},kf (ag4 P W) cs vs->(∀u∈vs,u.oneCell'=true)->(∀j u,vs[j]? =some u->W.cell? ⟨b,off+j,none⟩=some u)->mE (ag4 P W) b off cs
 |[],_,_,_,_,_=>trivial
 |c::cs,_,off,⟨u,us,rfl,r1,r2⟩,h1,h2=>by
  refine⟨⟨aus b off,u,h2 0 u (by simp),h1 u (by simp),r1⟩,afA r2 (fun v hv=>h1 v (by simp [hv])) (fun j v hj=> ?_)⟩;rw[<-h2 (j+1) v (by simpa using hj)];congr 2;omega
def arw {e:TypeId}{sz:Nat}{enc:α->List AV}{wf:α->Prop}(ht:P.underlying t=some (.slice e))(hsz:P.cellsOf e=sz)(hpos:0<sz)(hl: ∀x,(enc x).length=sz) (ih: ∀m,m<n-> ∀cs x,fR en P W 0 sp held m e cs=some x->ajG P W enc bk wf cs x.1) {x:DataW H×List MemPlace} (h:fR en P W 0 sp held n t cs=some x):
 ajG P W (fun xs:List α=>[.lI false sz (mp enc xs)]) (GS bk) (fun xs=> ∀y∈xs,wf y) cs x.1:=by
 rcases DataW.trod_slice ht h with⟨rfl,rfl⟩|⟨a,len,cap,elems,rest,m,hm,rfl,rfl,hb,hlc,hmx,hlen,hel,hsp,hns⟩
 ·refine⟨[],⟨_,[],rfl,?_,rfl⟩,by simp [fV],by simp [Rows.uptoBulk,GS],by simp⟩;rw[qF];exact⟨none,0,rfl,Nat.le_refl _,(by intro h;cases h),fun _=>rfl,(by intro a h;cases h),(by intro a h;cases h)⟩
 ·subst hsz
  have key: ∀(k i:Nat),i+k=len-> ∃xs:List α,xs.length=k/\mr (ag4 P W) (P.cellsOf e) a.block (a.off+i*P.cellsOf e) (mp enc xs)/\GS bk xs<=Rows.uptoBulkAll ((elems.drop i).map (·.1))+1/\(∀y∈xs,wf y)/\(0<k->i=0->a.spot=none):=by
   intro k;induction k with
   |zero=>
    intro i hi;refine⟨[],rfl,by rw[qF];trivial,?_,by simp,by omega⟩;simp [GS]
   |succ k ihk=>
    intro i hi;obtain⟨xs,hxl,hrows,avE,hwf,_⟩:=ihk (i+1) (by omega);have hi':i<elems.length:=by omega
    have he:=hel i (by omega);rw[fU hi'] at he;obtain⟨vs,hvs,htr⟩:=Option.bind_eq_some_iff.1 he;obtain⟨y,hy,h1,hbk,hw⟩:=ih m (by omega) vs _ htr;obtain⟨_,hvl,hcell⟩:=World.cells?_some hvs
    have afB:(a.add (i*P.cellsOf e)).spot=none:=by
     have h0:=hcell 0 hpos;have hv0:vs[0]? =some vs[0]:=fU (by omega);rw[hv0] at h0;unfold World.cell? at h0;have:(a.add (i*P.cellsOf e)).add 0=a.add (i*P.cellsOf e):=by unfold Addr.add;simp
     rw[this] at h0;split at h0
     ·split at h0
      ·cases h0
      ·rename_i hs;simpa using hs
     ·cases h0
    have aAi:a.add (i*P.cellsOf e)=⟨a.block,a.off+i*P.cellsOf e,none⟩:=by
     unfold Addr.add at afB ⊢;split
     ·rename_i h0;rw[if_pos h0] at afB;cases a;simp_all
     ·rfl
    refine⟨y::xs,by simp [hxl],?_,?_,?_,?_⟩
    ·rw[qF] at hrows ⊢;refine⟨hl y,afA hy h1 (fun j u hj=> ?_),?_⟩
     ·have hj':j<P.cellsOf e:=by rw[<-hvl];exact(List.getElem?_eq_some_iff.1 hj).1
      have:=hcell j hj';rw[hj,aAi,add_plain] at this;exact this
     ·have e2:a.off+i*P.cellsOf e+P.cellsOf e=a.off+(i+1)*P.cellsOf e:=by rw[Nat.add_mul];omega
      rw[e2];exact hrows
    ·have e3:elems.drop i=elems[i]::elems.drop (i+1):=List.drop_eq_getElem_cons hi';rw[e3];simp only[List.map_cons,Rows.uptoBulkAll,GS];omega
    ·intro z hz;simp only[List.mem_cons] at hz;rcases hz with rfl|hz
     ·exact hw
     ·exact hwf z hz
    ·intro _ h0;subst h0;rw[Nat.zero_mul] at afB;simpa [Addr.add] using afB
  obtain⟨xs,hxl,hrows,avE,hwf,afB⟩:=key len 0 (by omega);refine⟨xs,⟨_,[],rfl,?_,rfl⟩,by simp [fV],?_,hwf⟩
  ·refine⟨some a,cap,by rw[Kx,hxl],by rw[Kx,hxl];exact hlc,(by intro h;cases h),(by intro h;cases h),?_,?_⟩
   ·intro a' ha hne;cases ha
    have:0<len:=by
     rw[<-hxl,<-Kx enc xs];exact List.length_pos_iff.2 hne
    exact afB this rfl
   ·intro a' ha;cases ha;simpa using hrows
  ·simp only[fY] at avE;simp only[Rows.uptoBulk];omega
def fld {ty:Nat}(h:(fs[i]?).map (fun f=>(f.type,f.offset))=some (ty,off)): ∃f,fs[i]? =some f/\f.type=ty/\f.offset=off:=by
 cases hf:fs[i]? with
 |none=>rw[hf] at h;cases h
 |some f=>rw[hf] at h;cases h;exact⟨f,rfl,rfl,rfl⟩
def Zb {ty:Nat}{m sz:Nat}{xs:List (DataW H×List MemPlace)}(h:(fs[i]?).map (fun f=>(f.type,f.offset))=some (ty,off))(hsz:P.cellsOf ty=sz)
 (hf: ∀(i:Nat)(f:Field),fs[i]? =some f->fR en P W 0 sp held m f.type ((cs.drop f.offset).take (P.cellsOf f.type))=xs[i]?) (hi:i<xs.length):fR en P W 0 sp held m ty ((cs.drop off).take sz)=some xs[i]:=by
 obtain⟨f,h1,rfl,rfl⟩:=fld h;rw[<-hsz,hf i f h1,fU hi]
def VK{a b:List AV}{s:Nat}(h1:kf E a ((cs.drop o).take s))(h2:kf E b (cs.drop (o+s))):kf E (a++b) (cs.drop o):=by
 have:=kf.append h1 h2;rw[<-List.drop_drop,fZ] at this;exact this
def VM {s:Nat}(h1: ∀u∈(cs.drop o).take s,u.oneCell'=true)(h2: ∀u∈cs.drop (o+s),u.oneCell'=true): ∀u∈cs.drop o,u.oneCell'=true:=by
 intro u hu;rw[<-fZ s (cs.drop o),List.mem_append,List.drop_drop] at hu;rcases hu with hu|hu
 ·exact h1 u hu
 ·exact h2 u hu
def aut(h:cs.length=o):kf E [] (cs.drop o):=by
 rw[fW (by omega)];rfl
def auu(h:cs.length=o): ∀u∈cs.drop o,u.oneCell'=true:=by
 rw[fW (by omega)];simp
end
open Go.Proofs
open Go.Proofs.YtdkeelhebopgkaaGreatDoor
set_option maxRecDepth 100000
def jP.Ks(x:jP):Nat:=(x.name.length+1)+(1+1)
def jM.Ks(x:jM):Nat:=1+(GS jP.Ks x.qw+1)
mutual
def Syntax.Ks:Syntax->Nat
 | .mk kind text num names levels kids from_ to=>1+((text.length+1)+(1+(GS (fun m:Str=>m.length+1) names+(GS jM.Ks levels+(Syntax.ajH kids+(1+(1+1)))))))
def Syntax.ajH:List Syntax->Nat
 |[]=>1
 |x::xs=>x.Ks+Syntax.ajH xs
end
def Syntax.ajI: ∀xs,Syntax.ajH xs=GS Syntax.Ks xs
 |[]=>by simp only[Syntax.ajH,GS]
 |x::xs=>by simp only[Syntax.ajH,GS,Syntax.ajI xs]
def jH.Ks(x:jH):Nat:=GS (fun m:Str=>m.length+1) x.parts+(1+(1+((x.target.length+1)+1)))
def jH.wf(x:jH):Prop:=(∀y∈x.parts,True)/\wfI .i64 x.level/\wfI .i64 x.AT/\True/\True
def jH.read{H:Type}{en:TypeId×Value->H}{held:Bool}: ∀(n:Nat)(cs:List Value)(x:DataW H×List MemPlace),fR en Tryz.prog W 0 sp held n 53 cs=some x->ajG Tryz.prog W jH.cells jH.Ks jH.wf cs x.1
 |n,cs,x,h=>by
  obtain⟨xs,m,hm,rfl,hl,hlen,hf⟩:=DataW.trod_struct (fs:=Tryz.prog.fieldsOf 53) (by kernel_rfl) h;have hsz:Tryz.prog.cellsOf 53=4:=by kernel_rfl
  have hfs:(Tryz.prog.fieldsOf 53).size=4:=by kernel_rfl
  rw[hsz] at hl;rw[hfs] at hlen;have h0:=Zb (i:=0) (ty:=25) (off:=0) (sz:=1) (by kernel_rfl) (by kernel_rfl) hf (by omega);have h1:=Zb (i:=1) (ty:=3) (off:=1) (sz:=1) (by kernel_rfl) (by kernel_rfl) hf (by omega);have h2:=Zb (i:=2) (ty:=3) (off:=2) (sz:=1) (by kernel_rfl) (by kernel_rfl) hf (by omega);have h3:=Zb (i:=3) (ty:=9) (off:=3) (sz:=1) (by kernel_rfl) (by kernel_rfl) hf (by omega)
  match xs,hlen,h0,h1,h2,h3 with
  |[y0,y1,y2,y3],_,h0,h1,h2,h3=>
   obtain⟨x0,r0,o0,b0,w0⟩:=arw (t:=25) (e:=9) (sz:=1) (enc:=mA) (bk:=(fun m:Str=>m.length+1)) (wf:=(fun _=>True)) (by kernel_rfl) (by kernel_rfl) (by decide) (fun _=>rfl) (fun k hk cs x h=>arv (t:=9) (by kernel_rfl) h) h0;obtain⟨x1,r1,o1,b1,w1⟩:=aru (t:=3) (k:= .i64) (by kernel_rfl) h1;obtain⟨x2,r2,o2,b2,w2⟩:=aru (t:=3) (k:= .i64) (by kernel_rfl) h2;obtain⟨x3,r3,o3,b3,w3⟩:=arv (t:=9) (by kernel_rfl) h3;have b0:GS (fun m:Str=>m.length+1) x0<=Rows.uptoBulk y0.1:=b0;have b1:1<=Rows.uptoBulk y1.1:=b1;have b2:1<=Rows.uptoBulk y2.1:=b2;have b3:(x3.length+1)<=Rows.uptoBulk y3.1:=b3;refine⟨⟨x0,x1,x2,x3⟩,?_,?_,?_,?_⟩
   ·have hr:=(VK r0 (VK r1 (VK r2 (VK r3 (aut hl)))));rw[fY] at hr;rw[jH.nD];simpa only[List.append_assoc,List.cons_append,List.nil_append,List.append_nil] using hr
   ·have ho:=(VM o0 (VM o1 (VM o2 (VM o3 (auu hl)))));rw[fY] at ho;exact ho
   ·simp only[List.map_cons,List.map_nil,Rows.uptoBulk,Rows.uptoBulkAll,jH.Ks];omega
   ·exact⟨w0,w1,w2,w3,trivial⟩
open Go.Proofs Go.Proofs.YtdkeelhebopgkaaGreatDoor Go.RowKit
section
variable {H:Type} {enc:TypeId×Value->H}
def aeI{a:Assume}{C:Checked}{os:Os}{fn:Func}{s:OpenSpec}{k:(H:Type)->List (DataW H)->Bool}(hk:s.cond=some k){F:Stop.Interp}{conds:List PathCond}{apart fresh again:Bool}
 (own:ownKnob C.prog.godebug=none) (started:os.Started) (noInit:C.prog.inits.idxOf? f=none) (hfn:C.prog.funcs[f]? =some fn)
 (witness: ∃(w:World)(tape:Tape)(i:Input),w.os=os/\(w.forCall tape i).Shaped C.prog/\i.vars=[]/\Input.okWide C.prog (w.forCall tape i) .any w.heap.size f i/\
   s.pre6 enc C.prog fn conds apart (w.forCall tape i).memory i.args/\a.holds C.prog (lone (Frame.enter C.prog f i.args .normal) [] (w.forCall tape i)))
 (contract: ∀(W:World)(base:Nat)(args:Array Value)(ds gs:List (DataW H))(before:List MemPlace),
   (∀(j:Nat) t v,fn.params[j]? =some t->args[j]? =some v->fS C.prog W .any base t v)->
   DataW.Whole enc C.prog fn.params.toList s.vars apart W args.toList ds gs before->
   conds.all (PathCond.test C.prog ⟨fn.params.toList,ds,s.bare.plain.varTypes C.prog,gs⟩)=true->k H (ds++gs)=true->W.ShapedOpen C.prog->
   Calls C.prog f args W fun e W'=> ∃v,e= .returned v/\(s.at F).post enc C.prog fn apart fresh handsOn again W args v W'):
 ReturnsInHanded a C os f .any (s.pre6 enc C.prog fn conds apart) ((s.at F).post enc C.prog fn apart fresh handsOn again):=by
 refine returnsInHanded_of_calls own started noInit witness ?_;intro w tape i _ hsh _ hok hpre hholds;obtain⟨_,_,_,fn',aAj,_,_,_,_,hval⟩:=hok;have e:fn'=fn:=Option.some.inj (aAj.symm.trans hfn);subst e;obtain⟨ds,gs,before,hw,hc,hkk⟩:=(OpenSpec.pre_some hk conds apart _ _).1 hpre.1;have hw':=DataW.Whole.of_heap (w':=w.forCall tape i) (by rfl) hw;refine(contract (w.forCall tape i) w.heap.size i.args ds gs before hval hw' hc hkk hsh).mono fun e W' ⟨v,he,hp⟩=> ?_
 subst he;exact ChangeSpec.post_blind hp
end
section
variable {H:Type} {en:TypeId×Value->H} {P:Program} {W':World}
def anz(W W':World):Prop:=W.heap.size<=W'.heap.size/\(∀b,b<W.heap.size->W'.heap[b]? =W.heap[b]?)/\(∀x,x.block<W.heap.size->W'.frozen? x=W.frozen? x)/\W'.output=W.output/\W'.os=W.os
def auv(hk:ahD W (fun _ _=>False)){args:List AV}{X:AV}{vs:Array Value}(h:GP P f args (fun r=>r=X))(hr:kf (ag4 P W) args vs.toList):
 Calls P f vs W fun e W'=> ∃v φ',e= .returned v/\nr ((ayY P W hk).env φ' [] W') X v/\anz W W':=by
 refine(h.2.2 (ayY P W hk) (fun _=>undef) W rfl rfl rfl (fun _ _ h=>h) vs hr).mono ?_;rintro e W' ⟨r,v,φ',rfl,he,qE,h1,h2,h3,h4,h5⟩;exact⟨v,φ',he,qE,h1,h2,h3,h4,h5⟩
def anz.kept(h:anz W W')(may:MemPlace->Prop):W.keptBut W' may:=by
 obtain⟨h1,h2,h3,h4,h5⟩:=h;refine⟨h5,h4,fun i hi=> ?_⟩;rw[h2 i hi];cases W.heap[i]? with
 |none=>rfl
 |some o=>
  cases o with
  |cells c t fr=>exact⟨rfl,rfl,rfl,fun _ _=>rfl⟩
  |map es clock=>exact .inr ⟨rfl,rfl⟩
  |_=>rfl
def aso{enc:TypeId×Value->H}{f:Func}{s:ChangeSpec}{apart fresh again:Bool}{args:Array Value}{ds gs:List (DataW H)}{before pa pv:List MemPlace}
 (hW:DataW.Whole enc P f.params.toList s.vars apart W args.toList ds gs before)
 (hres: ∀(b:Nat)(sp:Nat->Bool)(hd:Bool),DataW.TrodAll enc P W' b sp hd f.resultTypes.toList (v.resultList f.resultTypes.size) (s.fn H (ds++gs)).results [])
 (hargs: ∀sp:Nat->Bool,(∀p∈before,sp p.block=true)->DataW.TrodAll enc P W' 0 sp true f.params.toList args.toList (s.fn H (ds++gs)).args pa)
 (hvars: ∀sp:Nat->Bool,(∀p∈before,sp p.block=true)->DataW.TrodVars enc P W' sp s.vars (s.fn H (ds++gs)).vars pv)
 (hps:before=pa++pv) (hk:W.keptBut W' (· ∈before)) (hfz: ∀a,a.block<W.heap.size->W'.frozen? a=W.frozen? a)
 (hok: ∀(j:Nat)(t:TypeId)(r:Value),f.resultTypes[j]? =some t->(v.resultList f.resultTypes.size)[j]? =some r->fS P W' .any 0 t r):
 s.post enc P f apart fresh handsOn again W args v W':=by
 have hold: ∀p∈before,(fun b=>decide (b<W.heap.size)) p.block=true:=fun p hp=>by simpa using hW.lt p hp
 have hlt:=hW.lt;refine⟨ds,gs,before,[],pa,pv,hW,hres _ _ _,hargs _ hold,hvars _ hold,World.keptBut_mono (fun p hp=>⟨hp,?_⟩) hk,fun _=> ?_⟩
 ·rw[hps,List.mem_append] at hp;exact Or.inr hp
 ·obtain⟨_,_,_,_,_,hz,hn⟩:=hW;refine⟨hok,_,_,([]++pa)++pv,⟨[]++pa,pv,Go.ChangeShapes.trodAll_append (hargs _ (fun _ _=>rfl)) (hres _ _ _),hvars _ (fun _ _=>rfl),rfl,?_,?_⟩,?_⟩
  ·intro b off hp;have hp':MemPlace.cell b off∈before:=by rw[hps];simpa using hp
   rw[hfz _ (hlt _ hp')];exact hz b off hp'
  ·intro ha;have:=hn ha;rw[hps] at this;simpa using this
  ·intro p hp _;rw[hps];simpa using hp
def axz(hl:laidOutB P=true)(hr:P.readableRec t=true)(hrow:t<P.types.size){d:DataW H}
 (h:ga en P W 0 (fun _=>true) true t v d ps) (hL:anz W W') (hs: ∀p∈ps,sp p.block=true):ga en P W' 0 sp true t v d ps:=by
 refine WideElems.Trod_stays hl hr hrow h (fun p hp=> ?_) hs;obtain⟨n,hn⟩:=h;have hb:=DataW.trod_lt n t _ _ hn p hp;cases p with
 |cell b off=>
  have hb':b<W.heap.size:=hb;show W'.cell? ⟨b,off,none⟩=W.cell? ⟨b,off,none⟩;simp only[World.cell?,hL.2.1 b hb']
 |map b=>exact hL.2.1 b hb
def aw4{e:α->List AV}{wf:α->Prop}{d:DataW H}(ht:P.underlying t=some (.struct fs))(hval:fS P W .any base t v)
 (h:ga en P W 0 (fun _=>true) true t v d ps) (hread: ∀n cs x,fR en P W 0 (fun _=>true) true n t cs=some x->ajG P W e bk wf cs x.1):
 ∃x,nr (ag4 P W) (.agg (e x)) v/\bk x<=Rows.uptoBulk d/\wf x:=by
 obtain⟨cs,rfl,_⟩:=WideShapes.okWide_struct ht hval;obtain⟨n,hn⟩:=h;obtain⟨x,hr,_,hb,hw⟩:=hread n _ _ hn;exact⟨x,⟨cs,rfl,hr⟩,hb,hw⟩
def ayZ{e:α->AV}{wf:α->Prop}{d:DataW H}(hv:v.cells.toList=[v])
 (h:ga en P W 0 (fun _=>true) true t v d ps) (hread: ∀n cs x,fR en P W 0 (fun _=>true) true n t cs=some x->ajG P W (fun x=>[e x]) bk wf cs x.1):
 ∃x,nr (ag4 P W) (e x) v/\bk x<=Rows.uptoBulk d/\wf x:=by
 obtain⟨n,hn⟩:=h;obtain⟨x,hr,_,hb,hw⟩:=hread n _ _ hn;rw[hv] at hr;obtain⟨u,us,he,h1,_⟩:=hr;simp only[List.cons.injEq] at he;obtain⟨rfl,_⟩:=he;exact⟨x,h1,hb,hw⟩
def ay0(ht:P.underlying t=some (.int k))(hval:fS P W .any base t v):v.cells.toList=[v]:=by
 obtain⟨n,rfl⟩:=WideShapes.okWide_int ht hval;rfl
def avF(ht:P.underlying t=some .string)(hval:fS P W .any base t v):v.cells.toList=[v]:=by
 obtain⟨n,rfl⟩:=WideShapes.okWide_string ht hval;rfl
def axA(ht:P.underlying t=some .bool)(hval:fS P W .any base t v):v.cells.toList=[v]:=by
 obtain⟨n,rfl⟩:=WideShapes.okWide_bool ht hval;rfl
def aw5 {e:TypeId}(ht:P.underlying t=some (.slice e))(hval:fS P W .any base t v):v.cells.toList=[v]:=by
 obtain⟨a,l,c,rfl⟩:=WideShapes.okWide_slice ht hval;rfl
def aw6(ht: ∀fs,P.underlying t≠some (.struct fs))(ht': ∀n e,P.underlying t≠some (.array n e))(hval:fS P W .any base t v)(hv: ∀cs,v≠ .agg cs):v.cells.toList=[v]:=by
 cases v<;>first|rfl|exact absurd rfl (hv _)
end
open Go.Proofs Go.Proofs.YtdkeelhebopgkaaGreatDoor Go.MakeChecks
def aAB(h:W.ShapedOpen Tryz.prog)(hl:laidMetH Tryz.prog Rows.parserSameRow.laid W):ahD W (fun _ _=>False):=by
 rintro b o (⟨rfl,rfl⟩|⟨rfl,ho⟩)
 ·obtain⟨m,hm⟩:=cell_of_shapedOpen_int (g:=1) (t:=3) (zero:= #[.int .i64 0]) (k:= .i64) h (of_decide_eq_true (by kernel_rfl)) (by kernel_rfl) rfl (by kernel_rfl) (by kernel_rfl) (by kernel_rfl);exact⟨_,hm,⟨fun _=>⟨m,rfl⟩,fun f=>by cases f⟩,fun f=>f⟩
 ·rw[laidMetH_plain _ _ _ (by kernel_rfl)] at hl;have hm:=(fT (fT (fT (fT (fT (fT (fT hl)))))));have e:(Rows.laid_strings_asciiSpace:DataW Unit)=Lib.tabData .u8 ((List.range 256).map ab4):=by kernel_rfl
  rw[e] at hm;have ht:=Lib.tabIs_of_head (P:=Tryz.prog) (g:=0) (t:=212) (e:=5) (n:=256) (by kernel_rfl) (by kernel_rfl) (by kernel_rfl) (by kernel_rfl) (by kernel_rfl) (by kernel_rfl) hm;have hc:=ht.cell (g:=0) (by kernel_rfl) o (by simpa using ho)
  have hz:((List.range 256).map ab4).getD o 0=ab4 o:=by
   rw[List.getD_eq_getElem?_getD,List.getElem?_map,List.getElem?_range ho];rfl
  rw[hz] at hc;exact⟨_,hc,⟨fun f=>(by cases f),fun _=>rfl⟩,fun f=>f⟩
end Go.Abs
namespace Go.Proofs.YtdkeelhebopgkaaGreatDoor
open Go.RowKit
abbrev avG:List (String×DataW Unit):=[("math/bits.deBruijn32tab",Rows.laid_math_bits_deBruijn32tab),("math/bits.deBruijn64tab",Rows.laid_math_bits_deBruijn64tab),("internal/strconv.uint64pow10",Rows.laid_internal_strconv_uint64pow10),("unicode/utf8.acceptRanges",Rows.laid_unicode_utf8_acceptRanges),("strconv.ErrRange",Rows.laid_strconv_ErrRange),("strconv.ErrSyntax",Rows.laid_strconv_ErrSyntax),("unicode.White_Space",Rows.laid_unicode_White_Space),("strings.asciiSpace",Rows.laid_strings_asciiSpace),("unicode/utf8.first",Rows.laid_unicode_utf8_first)]
noncomputable def afC (os:Os):World:=World.laidAll Tryz.prog os avG
def auw(os:Os):(afC os).os=os:=World.laidAll_os _ _ _
def ay1(os:Os)(args:Array Value):laidMet Tryz.prog avG ((afC os).forCall (fun _ _=>0) ⟨#[],args,[]⟩).memory:=
 laidMet_laidAll args (by kernel_rfl) (by kernel_rfl)
end Go.Proofs.YtdkeelhebopgkaaGreatDoor
