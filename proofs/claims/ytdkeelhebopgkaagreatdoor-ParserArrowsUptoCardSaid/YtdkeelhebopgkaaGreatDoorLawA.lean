/- A part of the proof: plain facts. -/
import Derived.Test.YtdkeelhebopgkaaGreatDoorCoreC
import Derived.Test.YtdkeelhebopgkaaGreatDoorDataA
import Derived.Test.YtdkeelhebopgkaaGreatDoorReadA
import Derived.KernelRfl
set_option linter.all false
open Int renaming le_refl → gb,toNat_natCast → gy,le_trans → gE,natCast_add → gQ
open Nat renaming le_refl → gf,zero_le → gi,strongRecOn → gG,lt_succ_self → gH,le_succ → gS,le_of_lt → gW,add_zero → gX
open Bool renaming true_and → gh,and_eq_true → gp,false_or → gr,not_false → gv,eq_iff_iff → gF,not_true → gJ,or_eq_false_iff → gP,or_false → gU,or_eq_true → hJ,false_and → hO
open List renaming drop_eq_nil_of_le → gj,drop_eq_getElem_cons → gk,length_drop → gq,drop_drop → gw,getElem_mem → gx,length_cons → gz,mem_singleton → gA,mem_append → gB,contains_cons → gD,suffix_refl → gI,length_nil → gK,getElem?_eq_getElem → gL,take_length → gN,drop → gO,all_nil → gR,length_append → gT,take_append_getElem → gV,length_eq_zero_iff → gY,set_getElem_self → hU
open Option renaming bind_some → gu
open Go.Lib renaming contains → gC,index → gZ,indexAny → ia
open Go.Utf8 renaming decode → gM
namespace Go.Abs
variable {c:Bool}{a b k:Int}{ns:List Str}{ls:List jM}{α:Type}{xs:List α}{N j:Nat}{L:Nat->Nat->Int->Option Bool}{β:Type}{F:Nat->Option (PR (((jG×Unit)×Unit)×(β×Unit)) (((jG×Unit)×Unit)×(jT×Unit)))}{t:Syntax}{P:α->Nat->Prop}
section
variable {R S T:Type}
def Ev(F:Nat->Option R)(r:R):Prop:= ∃N,∀n,N<=n->F n=some r
def kC(F:Nat->Nat->Option R)(r:R):Prop:= ∃N,∀n m,N<=n->N<=m->F n m=some r
theorem Ev.fn{F G:Nat->Option R}{r:R}(h: ∀n,F (n+1)=G n)(hg:Ev G r):Ev F r:=by
 obtain⟨N,hN⟩:=hg;refine⟨N+1,fun n hn=> ?_⟩;obtain⟨k,rfl⟩: ∃k,n=k+1:=⟨n-1,by omega⟩;rw[h];exact hN k (by omega)
theorem Ev.AN{F:Nat->Nat->Option R}{r:R}(h:kC F r):Ev (fun n=>F n n) r:=by
 obtain⟨N,hN⟩:=h;exact⟨N,fun n hn=>hN n n hn hn⟩
theorem kC.Xi{F:Nat->Option R}{r:R}(h:Ev F r):kC (fun n _=>F n) r:=by
 obtain⟨N,hN⟩:=h;exact⟨N,fun n m hn _=>hN n hn⟩
theorem kC.lp{F G:Nat->Nat->Option R}{r:R}(h: ∀n m,F n (m+1)=G n m)(hg:kC G r):kC F r:=by
 obtain⟨N,hN⟩:=hg;refine⟨N+1,fun n m hn hm=> ?_⟩;obtain⟨k,rfl⟩: ∃k,m=k+1:=⟨m-1,by omega⟩
 grind
theorem Ev.pure{r:R}:Ev (fun _=>some r) r:=⟨0,fun _ _=>rfl⟩
theorem kC.pure{r:R}:kC (fun _ _=>some r) r:=⟨0,fun _ _ _ _=>rfl⟩
theorem Ev.bind{F:Nat->Option S}{G:Nat->S->Option R}{x:S}{r:R}(h:Ev F x)(hg:Ev (fun n=>G n x) r):Ev (fun n=>(F n).bind (G n)) r:=by
 obtain⟨N,hN⟩:=h;obtain⟨M,hM⟩:=hg;refine⟨max N M,fun n hn=> ?_⟩
 grind
theorem kC.bind{F:Nat->Nat->Option S}{G:Nat->Nat->S->Option R}{x:S}{r:R}(h:kC F x)(hg:kC (fun n m=>G n m x) r):kC (fun n m=>(F n m).bind (G n m)) r:=by
 obtain⟨N,hN⟩:=h;obtain⟨M,hM⟩:=hg;refine⟨max N M,fun n m hn hm=> ?_⟩
 grind
theorem kC.lH{F:Nat->Option S}{G:Nat->Nat->S->Option R}{x:S}{r:R}(h:Ev F x)(hg:kC (fun n m=>G n m x) r):kC (fun n m=>(F n).bind (G n m)) r:=
 kC.bind (F:=fun n _=>F n) (kC.Xi h) hg
theorem Ev.congr{F G:Nat->Option R}{r:R}(hg:Ev G r)(h: ∀n,F n=G n):Ev F r:=by
 rw[show F=G from funext h];exact hg
theorem Ev.auy{F:Nat->Option R}{r s:R}(h:Ev F r)(k:Ev F s):r=s:=by
 obtain⟨N,hN⟩:=h;obtain⟨M,hM⟩:=k;have a:=hN (max N M) (by omega)
 grind
def li(F:Nat->Option R)(Q:R->Prop):Prop:= ∃r,Q r/\Ev F r
def kW(F:Nat->Nat->Option R)(Q:R->Prop):Prop:= ∃r,Q r/\kC F r
theorem li.fn{F G:Nat->Option R}{Q:R->Prop}(h: ∀n,F (n+1)=G n)(hg:li G Q):li F Q:=Exists.imp (fun _ k=>⟨k.1,Ev.fn h k.2⟩) hg
theorem li.AN{F:Nat->Nat->Option R}{Q:R->Prop}(h:kW F Q):li (fun n=>F n n) Q:=Exists.imp (fun _ k=>⟨k.1,Ev.AN k.2⟩) h
theorem kW.Xi{F:Nat->Option R}{Q:R->Prop}(h:li F Q):kW (fun n _=>F n) Q:=Exists.imp (fun _ k=>⟨k.1,kC.Xi k.2⟩) h
theorem kW.lp{F G:Nat->Nat->Option R}{Q:R->Prop}(h: ∀n m,F n (m+1)=G n m)(hg:kW G Q):kW F Q:=Exists.imp (fun _ k=>⟨k.1,kC.lp h k.2⟩) hg
theorem li.pure{r:R}{Q:R->Prop}(h:Q r):li (fun _=>some r) Q:=⟨r,h,Ev.pure⟩
theorem kW.pure{r:R}{Q:R->Prop}(h:Q r):kW (fun _ _=>some r) Q:=⟨r,h,kC.pure⟩
theorem li.bind{F:Nat->Option S}{G:Nat->S->Option R}{P:S->Prop}{Q:R->Prop}(h:li F P)(hg: ∀x,P x->li (fun n=>G n x) Q):li (fun n=>(F n).bind (G n)) Q:=by
 obtain⟨x,hx,hF⟩:=h;obtain⟨r,hr,hG⟩:=hg x hx;exact⟨r,hr,Ev.bind hF hG⟩
theorem kW.bind{F:Nat->Nat->Option S}{G:Nat->Nat->S->Option R}{P:S->Prop}{Q:R->Prop}(h:kW F P)(hg: ∀x,P x->kW (fun n m=>G n m x) Q):kW (fun n m=>(F n m).bind (G n m)) Q:=by
 obtain⟨x,hx,hF⟩:=h;obtain⟨r,hr,hG⟩:=hg x hx;exact⟨r,hr,kC.bind hF hG⟩
theorem kW.lH{F:Nat->Option S}{G:Nat->Nat->S->Option R}{P:S->Prop}{Q:R->Prop}(h:li F P)(hg: ∀x,P x->kW (fun n m=>G n m x) Q):kW (fun n m=>(F n).bind (G n m)) Q:=
 kW.bind (F:=fun n _=>F n) (kW.Xi h) hg
theorem kW.idx{xs:List S}{i:Nat}{G:Nat->Nat->S->Option R}{Q:R->Prop}(hi:i<xs.length)(hg:kW (fun n m=>G n m xs[i]) Q):kW (fun n m=>(tu xs (i:Int)).bind (G n m)) Q:=by
 grind [tu]
theorem li.pO{A B:Nat->Option R}{Q:R->Prop}(h1:c=true->li A Q)(h2:c=false->li B Q):li (fun n=>bif c then A n else B n) Q:=by
 cases c with
 |true=>exact h1 rfl
 |false=>exact h2 rfl
theorem kW.pO{A B:Nat->Nat->Option R}{Q:R->Prop}(h1:c=true->kW A Q)(h2:c=false->kW B Q):kW (fun n m=>bif c then A n m else B n m) Q:=by
 cases c with
 |true=>exact h1 rfl
 |false=>exact h2 rfl
theorem li.ev{F:Nat->Option R}{r:R}(h:li F (· =r)):Ev F r:=by obtain⟨s,rfl,h⟩:=h;exact h
theorem Ev.tot{F:Nat->Option R}{r:R}{Q:R->Prop}(h:Ev F r)(q:Q r):li F Q:=⟨r,q,h⟩
theorem kW.up {L:Nat->Nat->Int->S->Option R} (len:Nat) (I:Nat->S->Prop) (Q:R->Prop)
 (h1: ∀i s,i<len->I i s->(∀s',I (i+1) s'->kW (fun n m=>L n m ((i+1:Nat):Int) s') Q)->kW (fun n m=>L n m (i:Int) s) Q)
 (h2: ∀s,I len s->kW (fun n m=>L n m (len:Int) s) Q): ∀(i:Nat)(s:S),i<=len->I i s->kW (fun n m=>L n m (i:Int) s) Q:=by
 intro i s hi h;obtain⟨k,hk⟩: ∃k,k=len-i:=⟨_,rfl⟩;induction k generalizing i s with
 |zero=>obtain rfl:i=len:=by omega
        exact h2 s h
 |succ k ih=>grind
theorem wrap_small{n:Int}(h: -9223372036854775808<=n)(h2:n<=9223372036854775807):IntKind.i64.wrap n=n:=by
 grind [IntKind.wrap,IntKind.signed,IntKind.bits]
theorem kz{i:Nat}(h:i<9223372036854775807):IntKind.i64.wrap ((i:Int)+1)=((i+1:Nat):Int):=by
 grind [wrap_small]
theorem n8{xs:List S}{i:Nat}(hi:i<xs.length):tu xs (i:Int)=some xs[i]:=by simp [tu,hi]
theorem kC.idx{xs:List S}{i:Nat}{G:Nat->Nat->S->Option R}{r:R}(hi:i<xs.length)(hg:kC (fun n m=>G n m xs[i]) r):kC (fun n m=>(tu xs (i:Int)).bind (G n m)) r:=by
 simp only[n8 hi];exact hg
noncomputable def eqb (a b:α):Bool:= @decide (a=b) (Classical.propDecidable _)
theorem MO{a b:α}:eqb a b=true↔a=b:=by
 grind [eqb]
theorem Zd(a:α):eqb a a=true:=MO.2 rfl
theorem aoV{a b:α}(h:a≠b):eqb a b=false:=by
 grind [MO]
theorem arx(x y:α)(xs ys:List α):eqb (x::xs) (y::ys)=(eqb x y&&eqb xs ys):=by
 grind [MO]
theorem abW {ys:List α}(h:xs.length≠ys.length):eqb xs ys=false:=aoV fun e=>h (by rw[e])
theorem auz[BEq α][LawfulBEq α](x y:α):eqb x y=(x==y):=by
 grind [MO]
theorem kC.andThen{F:Nat->Nat->Option Bool}{r:Bool}(h:kC F r):kC (fun n m=>bif c then F n m else some false) (c&&r):=by
 cases c with
 |true=>exact h
 |false=>exact kC.pure
theorem kC.same(xs ys:List α)(hl:xs.length=ys.length)
 (h1: ∀(i:Nat)(hi:i<xs.length)(hj:i<ys.length)(r:Bool),kC (fun n m=>L n m ((i+1:Nat):Int)) r->kC (fun n m=>L n m (i:Int)) (eqb xs[i] ys[i]&&r))
 (h2:kC (fun n m=>L n m (xs.length:Int)) true):kC (fun n m=>L n m 0) (eqb xs ys):=by
 have key: ∀(k i:Nat),k+i=xs.length->kC (fun n m=>L n m (i:Int)) (eqb (xs.drop i) (ys.drop i)):=by
  intro k;induction k with
  |zero=>
   grind [Zd]
  |succ k ih=>
   grind [gk,arx]
 have:=key xs.length 0 (by omega);simpa using this
end
inductive Rs(α:Type) where
 |ok (x:α) (j:Nat)
 |er (e at_:Int)
variable {rs:Rs β}{f:β->Nat->Rs α}
def Rs.bind:Rs α->(α->Nat->Rs β)->Rs β
 | .ok x j,f=>f x j
 | .er e a,_=> .er e a
structure Src where
 len:Nat
 K:Nat->Int×Str
 F:Nat->Int
 E:Nat->Int
 isS:Str->Bool
 np:List Syntax->Syntax×Int×Int
def Pl:Syntax:= .mk 0 [] 0 [] [] [] 0 0
def ajJ(s:Str):Bool:=s.contains 46
def aah(s:Str):Int:=s.foldl (fun n c=>10*n+((c.toNat:Int)-48)) 0
namespace Src
section
variable (S:Src)
def nx(i:Nat):Nat:=if i+1<S.len then i+1 else i
def is(k:Int)(s:Str)(i:Nat):Bool:=(S.K i).1==k&&(S.K i).2==s
def sym(s:Str)(i:Nat):Bool:=S.is 2 s i
def key(s:Str)(i:Nat):Bool:=S.is 3 s i
def bad(i:Nat):Rs α:= .er 4 (S.F i)
def deep(i:Nat):Rs α:= .er 7 (S.F i)
def take(s:Str)(i:Nat):Rs Unit:=bif S.sym s i||S.key s i then .ok () (S.nx i) else S.bad i
def simple(i:Nat):Bool:=(S.K i).1==0&& !ajJ (S.K i).2
def isVar(i:Nat):Bool:=S.simple i||S.sym [95] i
def var(i:Nat):Rs Str:=bif S.isVar i then .ok (S.K i).2 (S.nx i) else S.bad i
def Dn:Nat->List Str->Nat->Rs (List Str)
 |0,out,i=>bif S.isVar i then S.deep i else .ok out i
 |m+1,out,i=>bif S.isVar i then Dn m (out++[(S.K i).2]) (S.nx i) else .ok out i
def vars(i:Nat):Rs (List Str):=(S.var i).bind fun s j=>S.Dn 199 [s] j
def Jn(i:Nat):Rs Str:=bif S.simple i then .ok (S.K i).2 (S.nx i) else S.bad i
def name(i:Nat):Rs Str:=bif (S.K i).1==0 then .ok (S.K i).2 (S.nx i) else S.bad i
def num(i:Nat):Rs Int:=bif (S.K i).1==1 then .ok (aah (S.K i).2) (S.nx i) else S.bad i
def listed{α:Type}(one:Nat->Rs (List α)):Nat->List α->Nat->Rs (List α)
 |0,_,i=>S.deep i
 |m+1,out,i=>(one i).bind fun l j=>bif S.sym [44] j then listed one m (out++l) (S.nx j) else .ok (out++l) j
def plus(out:List jP)(i:Nat):Rs (List jP):=
 bif S.sym [43] i then(S.num (S.nx i)).bind fun n j=>bif out.all (fun a=>decide (a.plus+n<=999999)) then .ok (out.map fun a=>{name:=a.name,plus:=a.plus+n}) j else .er 5 (S.F (S.nx i))
 else .ok out i
def qw:Nat->Nat->Rs (List jP)
 |0,i=>S.bad i
 |f+1,i=>(bif (S.K i).1==1 then(S.num i).bind fun n j=> .ok [{name:=[],plus:=n}] j
   else bif S.is 0 [109,97,120] i&&(decide (i+1<S.len)&&S.sym [40] (i+1)) then(S.listed (qw f) 200 [] (S.nx (S.nx i))).bind fun l j=>(S.take [41] j).bind fun _ k=> .ok l k
   else(S.Jn i).bind fun s j=> .ok [{name:=s,plus:=0}] j).bind S.plus
def level(i:Nat):Rs jM:=bif S.sym [95] i then .ok {hole:=true,qw:=[]} (S.nx i) else(S.qw S.len i).bind fun l j=> .ok {hole:=false,qw:=l} j
def one(i:Nat):Rs jM:=
 bif (S.K i).1==1 then(S.num i).bind fun n j=> .ok {hole:=false,qw:=[{name:=[],plus:=n}]} j
 else bif S.simple i then .ok {hole:=false,qw:=[{name:=(S.K i).2,plus:=0}]} (S.nx i)
 else bif S.sym [40] i then(S.level (S.nx i)).bind fun l j=>(S.take [41] j).bind fun _ k=> .ok l k
 else .ok {hole:=true,qw:=[]} (bif S.sym [95] i then S.nx i else i)
def levels(i:Nat):Rs (List jM):=
 bif S.sym [46,123] i then(S.listed (fun i=>(S.level i).bind fun l j=> .ok [l] j) 200 [] (S.nx i)).bind fun l j=>(S.take [125] j).bind fun _ k=> .ok l k
 else .ok [] i
def vN(i:Nat):Bool:=
 (S.K i).1==0||(S.K i).1==1||S.sym [40] i||S.sym [40,41] i||S.sym [95] i||S.sym [64] i||S.key [80,114,111,112] i||S.key [84,121,112,101] i||S.key [98,121] i
def BN(i:Nat):Bool:=(S.K i).1==2&&(!((S.K i).2==[95])&&S.isS (S.K i).2)
def Ku(kind num:Int)(l:List jO)(body:Syntax)(from_:Int):Syntax:=l.foldr (fun b body=> .mk kind b.name num [] [] [b.t,body] from_ body.to) body
def typed(l:List Str)(t:Syntax):List jO:=l.map fun s=>{name:=s,t}
def wr:Nat->List Str->Nat->List Str
 |0,_,_=>[]
 |f+1,out,i=>bif S.sym [58] i then out else bif S.isVar i then wr f (out++[(S.K i).2]) (i+1) else []
def written(i:Nat):List Str:=bif S.sym [40] i then S.wr (S.len-(i+1)) [] (i+1) else []
def hole(j:Nat):Syntax:= .mk 1 [] 0 [] [] [] (S.E j) (S.E j)
section
variable (ex ta:Nat->Rs Syntax)
def alts:Nat->Syntax->Nat->Rs Syntax
 |0,x,i=>bif S.sym [60,124,62] i then S.deep (S.nx i) else .ok x i
 |m+1,x,i=>bif S.sym [60,124,62] i then(ta (S.nx i)).bind fun y j=>alts m (.mk 15 [60,124,62] 0 [] [] [x,y] x.from_ y.to) j else .ok x i
def alt(i:Nat):Rs Syntax:=(ta i).bind fun x j=>S.alts ta 199 x j
def Jo:Nat->List Syntax->Nat->Rs (List Syntax)
 |0,out,i=>bif S.sym [125] i then .ok out i else S.deep i
 |m+1,out,i=>bif S.sym [125] i then .ok out i else(S.alt ta i).bind fun x j=>bif S.sym [59] j then Jo m (out++[x]) (S.nx j) else .ok (out++[x]) j
def ay2(i:Nat):Rs (List Syntax):=S.Jo ta 200 [] i
def block(i:Nat):Rs (List Syntax):=(S.take [123] i).bind fun _ j=>(S.ay2 ta j).bind fun l k=>(S.take [125] k).bind fun _ q=> .ok l q
def fill(i:Nat):Rs Syntax:=
 bif (S.K i).1==0 then(S.levels (S.nx i)).bind fun l j=> .ok (.mk 0 (S.K i).2 0 [] l [] (S.F i) 0) j
 else bif S.sym [64] i then(S.name (S.nx i)).bind fun s j=>(S.levels j).bind fun l k=> .ok (.mk 0 s 1 [] l [] (S.F i) 0) k
 else bif S.sym [95] i then .ok (.mk 1 [] 0 [] [] [] (S.F i) 0) (S.nx i)
 else bif (S.K i).1==1 then(S.num i).bind fun n j=> .ok (.mk 12 [] n [] [] [] (S.F i) 0) j
 else bif S.key [80,114,111,112] i then .ok (.mk 10 [] 0 [] [] [] (S.F i) 0) (S.nx i)
 else bif S.key [84,121,112,101] i then(S.one (S.nx i)).bind fun l j=> .ok (.mk 11 [] 0 [] [l] [] (S.F i) 0) j
 else bif S.sym [40,41] i then .ok (.mk 16 [] 0 [] [] [] (S.F i) 0) (S.nx i)
 else bif S.key [98,121] i then(S.block ta (S.nx i)).bind fun l j=> .ok (.mk 14 [] 0 [] [] l (S.F i) 0) j
 else S.bad i
def anA(x:Syntax)(t:Int):Syntax:= .mk x.kind x.text x.num x.names x.levels x.kids x.from_ t
def GJ(x:Syntax)(t:Int):Syntax:= .mk x.kind x.text x.num x.names x.levels x.kids t x.to
def pairs(to:Int):List Syntax->Syntax->Syntax
 |[],x=>x
 |y::l,x=> .mk 6 [] 0 [] [] [x,pairs to l y] x.from_ to
def Wv:Nat->List Syntax->Nat->Rs (List Syntax)
 |0,out,i=>bif S.sym [44] i then S.deep (S.nx i) else .ok out i
 |m+1,out,i=>bif S.sym [44] i then(ex (S.nx i)).bind fun x j=>Wv m (out++[x]) j else .ok out i
def DH(o i:Nat):Rs Syntax:=
 (ex i).bind fun x j=>
   bif S.sym [41] j then .ok x (S.nx j)
   else bif S.sym [58] j then(ex (S.nx j)).bind fun t k=>(S.take [41] k).bind fun _ q=> .ok (.mk 13 [] 0 [] [] [x,t] (S.F o) (S.E q)) q
   else bif S.sym [44] j then(S.Wv ex 199 [] j).bind fun l k=>(S.take [41] k).bind fun _ q=> .ok (GJ (pairs (S.E q) l x) (S.F o)) q
   else S.bad j
def basic(i:Nat):Rs Syntax:=bif S.sym [40] i then S.DH ex i (S.nx i) else(S.fill ta i).bind fun x j=> .ok (anA x (S.E j)) j
def Do:Nat->Syntax->Nat->Rs Syntax
 |0,x,i=>bif S.sym [46,49] i||S.sym [46,50] i then S.deep i else .ok x i
 |m+1,x,i=>bif S.sym [46,49] i||S.sym [46,50] i then Do m (.mk (bif (S.K i).2==[46,50] then 8 else 7) [] 0 [] [] [x] x.from_ (S.E (S.nx i))) (S.nx i) else .ok x i
def Q1(i:Nat):Rs Syntax:=(S.basic ex ta i).bind fun x j=>S.Do 200 x j
def NY:Nat->Syntax->Nat->Rs Syntax
 |0,x,i=>bif S.vN i then S.deep i else .ok x i
 |m+1,x,i=>bif S.vN i then(S.Q1 ex ta i).bind fun y j=>NY m (.mk 2 [] 0 [] [] [x,y] x.from_ y.to) j else .ok x i
def app(i:Nat):Rs Syntax:=(S.Q1 ex ta i).bind fun x j=>S.NY ex ta 199 x j
def item(i:Nat):Rs Syntax:=bif S.BN i then .ok (.mk 17 (S.K i).2 0 [] [] [] (S.F i) (S.E (S.nx i))) (S.nx i) else S.app ex ta i
def tU:Nat->List Syntax->Nat->Rs (List Syntax)
 |0,out,i=>bif S.BN i||S.vN i then S.deep i else .ok out i
 |m+1,out,i=>bif S.BN i||S.vN i then(S.item ex ta i).bind fun x j=>tU m (out++[x]) j else .ok out i
def SA(l:List Syntax)(i:Nat):Rs Syntax:=
 match l with
 |[]=>S.bad i
 |x::r=>bif r.isEmpty&& !(x.kind==17) then .ok x i
  else bif (S.np (x::r)).2.2==0 then .ok (S.np (x::r)).1 i
  else match (x::r)[(S.np (x::r)).2.1.toNat]? with
   |some y=> .er (S.np (x::r)).2.2 y.from_
   |none=> .er (S.np (x::r)).2.2 (S.F i)
def op(i:Nat):Rs Syntax:=(S.tU ex ta 200 [] i).bind S.SA
def binder(open_ shut:Str)(i:Nat):Rs (List jO):=
 (S.take open_ i).bind fun _ i=>(bif open_==[91] then(S.var i).bind fun s j=> .ok [s] j else S.vars i).bind fun l i=>
   (S.take [58] i).bind fun _ i=>(ex i).bind fun t i=>(S.take shut i).bind fun _ i=> .ok (typed l t) i
def product(kind num:Int)(o:Nat)(l:List jO)(sep:Str)(i:Nat):Rs Syntax:=
 (S.take sep i).bind fun _ i=>(ex i).bind fun x j=> .ok (Ku kind num l x (S.F o)) j
def L8:Nat->List jO->Nat->Rs (List jO)
 |0,out,i=>bif S.sym [61,62] i then .ok out i else S.deep i
 |m+1,out,i=>bif S.sym [61,62] i&& !out.isEmpty then .ok out i
  else bif S.sym [40] i then(S.binder ex [40] [41] i).bind fun l j=>L8 m (out++l) j
  else(S.var i).bind fun s j=>L8 m (out++[{name:=s,t:=S.hole j}]) j
def abJ(i:Nat):Rs Syntax:=(S.L8 ex 200 [] (S.nx i)).bind fun l j=>(S.take [61,62] j).bind fun _ j=>(ex j).bind fun x k=> .ok (Ku 3 0 l x (S.F i)) k
def aai(i:Nat):Rs Syntax:=
 (S.var (S.nx i)).bind fun s j=>(bif S.sym [58] j then ex (S.nx j) else .ok (S.hole j) j).bind fun t k=>(S.take [58,61] k).bind fun _ k=>(ex k).bind fun v q=>(S.take [105,110] q).bind fun _ q=>(ex q).bind fun b r=>
   .ok (.mk 9 s 0 [] [] [t,v,b] (S.F i) b.to) r
def z7(i:Nat):Rs Syntax:=
 (S.op ex ta i).bind fun x j=>bif S.sym [45,62] j then
     (ex (S.nx j)).bind fun b k=> .ok (Ku 4 0 (bif x.kind==13&&(x.from_==S.F i&& !(S.written i).isEmpty) then typed (S.written i) (x.kids.getD 1 Pl) else [{name:=[],t:=x}]) b x.from_) k
   else .ok x j
def Fx(i:Nat):Rs Syntax:=
 bif S.key [102,117,110] i then S.abJ ex i
 else bif S.key [108,101,116] i then S.aai ex i
 else bif S.key [83,105,103,109,97] i then(S.binder ex [40] [41] (S.nx i)).bind fun l j=>S.product ex 5 0 i l [44] j
 else bif S.sym [123] i then(S.binder ex [123] [125] i).bind fun l j=>S.product ex 4 1 i l [45,62] j
 else bif S.sym [91] i then(S.binder ex [91] [93] i).bind fun l j=>S.product ex 4 2 i l [45,62] j
 else S.z7 ex ta i
def Kb:Nat->List Str->Nat->Rs (List Str)
 |0,out,i=>bif (S.K i).1==0 then S.deep i else .ok out i
 |m+1,out,i=>bif (S.K i).1==0 then Kb m (out++[(S.K i).2]) (S.nx i) else .ok out i
def known(w:Str)(i:Nat):Rs (List Str×List Syntax):=
 bif w==[102,111,99,117,115] then(S.block ta (S.nx i)).bind fun l j=> .ok ([],l) j
 else bif [[101,120,97,99,116],[97,112,112,108,121],[99,104,97,110,103,101],[114,101,119,114,105,116,101],[114,101,119,114,105,116,101,66,97,99,107]].contains w then(ex (S.nx i)).bind fun x j=> .ok ([],[x]) j
 else bif [[97,115,115,117,109,112,116,105,111,110],[99,111,110,103,114,117,101,110,99,101],[108,105,110,97,114,105,116,104],[115,107,105,112]].contains w then .ok ([],[]) (S.nx i)
 else bif w==[105,110,116,114,111] then(S.var (S.nx i)).bind fun s j=> .ok ([s],[]) j
 else bif w==[105,110,116,114,111,115] then(S.vars (S.nx i)).bind fun l j=> .ok (l,[]) j
 else bif [[114,101,118,101,114,116],[105,110,100,117,99,116,105,111,110],[99,97,115,101,115],[105,110,106,101,99,116,105,111,110]].contains w then(S.Jn (S.nx i)).bind fun s j=> .ok ([s],[]) j
 else bif w==[115,105,109,112,108,105,102,121] then(S.name (S.nx i)).bind fun s j=>(S.Kb 199 [s] j).bind fun l k=> .ok (l,[]) k
 else bif w==[114,101,112,101,97,116]||w==[97,108,108] then(ta (S.nx i)).bind fun x j=> .ok ([],[x]) j
 else S.bad i
def RV(i:Nat):Rs Syntax:=
 (bif S.sym [123] i then(S.block ta i).bind fun l j=> .ok (([],l):List Str×List Syntax) j
   else bif (S.K i).1==0 then S.known ex ta (S.K i).2 i else S.bad i).bind fun p j=> .ok (.mk 15 (S.K i).2 0 p.1 [] p.2 (S.F i) (S.E j)) j
end
def both:Nat->(Nat->Rs Syntax)×(Nat->Rs Syntax)
 |0=>(fun i=>S.deep i,fun i=>S.deep i)
 |d+1=>(S.Fx (both d).1 (both d).2,S.RV (both d).1 (both d).2)
def Bd(d i:Nat):Rs Syntax:=(S.both d).1 i
def adr(d i:Nat):Rs Syntax:=(S.both d).2 i
def whole:Rs Syntax:=(S.Bd 200 0).bind fun x j=>bif (S.K j).1==4 then .ok x j else S.bad j
end
end Src
structure Cx where
 T:List j8
 b:Int
 tb:List jH
 sy:List Str
 np:List Syntax->Syntax×Int×Int
structure qU(Z:Cx):Prop where
 pos:0<Z.T.length
 len:Z.T.length<=100000
 base:0<=Z.b/\Z.b<=100000
 at_: ∀t∈Z.T,0<=t.at_/\t.at_<=100000/\t.text.length<=100000
 num: ∀t∈Z.T,t.kind=1->(t.text.length<=18/\Lib.atoi t.text=some (aah t.text))/\0<=aah t.text/\aah t.text<=999999
def Cx.S(Z:Cx):Src where
 len:=Z.T.length
 K:=fun i=>match Z.T[i]? with|some t=>(t.kind,t.text)|none=>(4,[])
 F:=fun i=>Z.b+match Z.T[i]? with|some t=>t.at_|none=>0
 E:=fun i=>match i with|0=>Z.b|k+1=>Z.b+match Z.T[k]? with|some t=>t.at_+(t.text.length:Int)|none=>0
 isS:=fun s=>Z.sy.contains s
 np:=Z.np
def Cx.st(Z:Cx)(i:Nat)(d:Int):jG:={q7:={tokens:=Z.T,next:=(i:Int),base:=Z.b},table:=Z.tb,ww:=Z.sy,depth:=d}
theorem Ev.to{S R:Type}{F:Nat->Option S}{x:S}{G:Nat->S->Option R}{Q:R->Prop}(h:Ev F x)(hg:li (fun n=>G n x) Q):li (fun n=>(F n).bind (G n)) Q:=
 li.bind (Ev.tot (Q:=(· =x)) h rfl) fun r hr=>by subst hr;exact hg
theorem Ev.BR{S R:Type}{F:Nat->Option S}{x:S}{G:Nat->Nat->S->Option R}{Q:R->Prop}(h:Ev F x)(hg:kW (fun n m=>G n m x) Q):kW (fun n m=>(F n).bind (G n m)) Q:=
 kW.lH (Ev.tot (Q:=(· =x)) h rfl) fun r hr=>by subst hr;exact hg
section
variable {Z:Cx}
def RP(Z:Cx)(d:Int):Rs α->PR (((jG×Unit)×Unit)×(α×Unit)) (((jG×Unit)×Unit)×(jT×Unit))->Prop
 | .ok x j,r=>j<Z.T.length/\r= .ok (((Z.st j d,()),()),x,())
 | .er e a,r=> ∃p,r= .pn (((p,()),()),{e:=e,at_:=a},())
def RU(Z:Cx)(d:Int):Rs Unit->PR (((jG×Unit)×Unit)×Unit) (((jG×Unit)×Unit)×(jT×Unit))->Prop
 | .ok x j,r=>j<Z.T.length/\r= .ok (((Z.st j d,()),()),())
 | .er e a,r=> ∃p,r= .pn (((p,()),()),{e:=e,at_:=a},())
theorem qx{i:Nat}(h:i<Z.T.length):Z.S.nx i<Z.T.length:=by
 unfold Src.nx;split
 ·rename_i h';exact h'
 ·exact h
theorem EP{i:Nat}(h:i<Z.T.length):Z.S.K i=(Z.T[i].kind,Z.T[i].text):=by simp [Cx.S,h]
theorem BA{i:Nat}{d:Int}(h:i<Z.T.length):Ev (fun n=>k8 n (Z.st i d)) Z.T[i]:=by
 refine Ev.fn (fun n=>by simp only[k8,kq,Bo,mB];exact rfl) ?_
 grind [Ev.pure,Cx.st,n8]
theorem VN(h:qU Z){i:Nat}{d:Int}(hi:i<Z.T.length):Ev (fun n=>nN n (Z.st i d)) (Z.S.F i):=by
 refine Ev.fn (fun n=>by simp only[nN,kq,B7,mB];exact rfl) ?_;refine Ev.bind (BA hi) ?_;have h1:=h.at_ Z.T[i] (gx hi);have h2:=h.base
 grind [Cx.st,wrap_small,Cx.S,Ev.pure]
theorem Q2(h:qU Z){i:Nat}{d:Int}(hi:i<Z.T.length):Ev (fun n=>mY n (Z.st i d)) (Z.S.E i):=by
 refine Ev.fn (fun n=>by simp only[mY,kq,Dx,mB];exact rfl) ?_;simp only[Cx.st];cases i with
 |zero=>grind [Cx.S,Ev.pure]
 |succ k=>
  have hk:k<Z.T.length:=by omega
  have h1:=h.at_ Z.T[k] (gx hk);have h2:=h.base;have hl:=h.len
  grind [wrap_small,n8,Cx.S,Ev.pure]
theorem Ze{i:Nat}{d:Int}(hi:i<Z.T.length)(k:Int)(s:Str):Ev (fun n=>rL n (Z.st i d) k s) (Z.S.is k s i):=by
 refine Ev.fn (fun n=>by simp only[rL,kq,EF,mB];exact rfl) ?_;refine Ev.bind (BA hi) ?_
 grind [Src.is,EP,Ev.pure]
theorem DI{i:Nat}{d:Int}(hi:i<Z.T.length)(s:Str):Ev (fun n=>lY n (Z.st i d) s) (Z.S.sym s i):=by
 refine Ev.fn (fun n=>by simp only[lY,kq,Aw,mB];exact rfl) ?_;exact Ev.bind (Ze hi 2 s) Ev.pure
theorem LF(h:qU Z){i:Nat}{d:Int}(hi:i<Z.T.length)(e:Int):Ev (fun n=>lK n e (Z.st i d)) (.pn (((Z.st i d,()),()),{e:=e,at_:=Z.S.F i},())):=by
 refine Ev.fn (fun n=>by simp only[lK,kq,Av,pu];exact rfl) ?_;exact Ev.bind (VN h hi) Ev.pure
theorem CH(h:qU Z){i:Nat}{d:Int}(hi:i<Z.T.length)(c:Bool):li (fun n=>lA n c (Z.st i d)) (RU Z d (bif c then .ok () i else Z.S.bad i)):=by
 refine li.fn (fun n=>by simp only[lA,kq,Az,pu];exact rfl) ?_;cases c with
 |true=>exact li.pure ⟨hi,rfl⟩
 |false=>
  refine Ev.to (LF h hi 4) ?_;exact li.pure ⟨_,rfl⟩
theorem yF{i:Nat}{d:Int}(hi:i<Z.T.length)(hk:k<200):Ev (fun n=>kO n k (Z.st i d)) (.ok (((Z.st i d,()),()),())):=by
 refine Ev.fn (fun n=>by simp only[kO,kq,xm,pu];exact rfl) ?_
 grind [Ev.pure]
theorem xE(h:qU Z){i:Nat}{d:Int}(hi:i<Z.T.length)(hk:200<=k):Ev (fun n=>kO n k (Z.st i d)) (.pn (((Z.st i d,()),()),{e:=7,at_:=Z.S.F i},())):=by
 refine Ev.fn (fun n=>by simp only[kO,kq,xm,pu];exact rfl) ?_;rw[jw hk];refine Ev.bind (LF h hi 7) ?_;simp only[BQ];exact Ev.pure
theorem ug(h:qU Z){i:Nat}{d:Int}(hi:i<Z.T.length):Ev (fun n=>kE n (Z.st i d)) ((Z.st (Z.S.nx i) d,()),(Z.S.K i).2,()):=by
 refine Ev.fn (fun n=>by simp only[kE,kq,B9,mB];exact rfl) ?_;refine Ev.bind (BA hi) ?_;rw[EP hi];have hl:=h.len;have e:IntKind.i64.wrap ((i:Int)+1)=((i+1:Nat):Int):=kz (by omega);have e2:decide ((((i+1:Nat):Int))<(Z.T.length:Int))=decide (i+1<Z.T.length):=decide_eq_decide.2 (by omega);simp only[Cx.st,e,e2];have hlen:Z.S.len=Z.T.length:=rfl
 grind [Src.nx,Ev.pure]
theorem qf(h:qU Z){i:Nat}{d:Int}(hi:i<Z.T.length)(s:Str):Ev (fun n=>kZ n (Z.st i d) s) ((Z.st (bif Z.S.sym s i then Z.S.nx i else i) d,()),Z.S.sym s i,()):=by
 refine Ev.fn (fun n=>by simp only[kZ,kq,AA,mB];exact rfl) ?_;refine Ev.bind (DI hi s) ?_;cases Z.S.sym s i with
 |true=>exact Ev.bind (ug h hi) Ev.pure
 |false=>exact Ev.pure
theorem RU.step{d:Int}{rs:Rs Unit}{f:Unit->Nat->Rs α}{F:Nat->Option (PR (((jG×Unit)×Unit)×Unit) (((jG×Unit)×Unit)×(jT×Unit)))}{R:Type}{A:Nat->(((jG×Unit)×Unit)×Unit)->Option R}{B:Nat->(((jG×Unit)×Unit)×(jT×Unit))->Option R}{Q:Rs α->R->Prop}
 (h:li F (RU Z d rs)) (hok: ∀j,rs= .ok () j->j<Z.T.length->li (fun n=>A n (((Z.st j d,()),()),())) (Q (f () j))) (hpn: ∀p e a,rs= .er e a->li (fun n=>B n (((p,()),()),{e:=e,at_:=a},())) (Q (.er e a)):=by intros;first|exact li.pure ⟨_,rfl⟩|exact li.pure ⟨_,_,rfl⟩):
 li (fun n=>(F n).bind fun x=>BQ x (A n) (B n)) (Q (rs.bind f)):=by
 refine li.bind h fun r hr=> ?_
 cases rs with
 |ok x j=>obtain⟨hj,rfl⟩:=hr;exact hok j rfl hj
 |er e a=>obtain⟨p,rfl⟩:=hr;exact hpn p e a rfl
theorem RP.step{d:Int}{R:Type}{A:Nat->(((jG×Unit)×Unit)×(β×Unit))->Option R}{B:Nat->(((jG×Unit)×Unit)×(jT×Unit))->Option R}{Q:Rs α->R->Prop}
 (h:li F (RP Z d rs)) (hok: ∀x j,rs= .ok x j->j<Z.T.length->li (fun n=>A n (((Z.st j d,()),()),x,())) (Q (f x j))) (hpn: ∀p e a,rs= .er e a->li (fun n=>B n (((p,()),()),{e:=e,at_:=a},())) (Q (.er e a)):=by intros;first|exact li.pure ⟨_,rfl⟩|exact li.pure ⟨_,_,rfl⟩):
 li (fun n=>(F n).bind fun x=>BQ x (A n) (B n)) (Q (rs.bind f)):=by
 refine li.bind h fun r hr=> ?_
 cases rs with
 |ok x j=>obtain⟨hj,rfl⟩:=hr;exact hok x j rfl hj
 |er e a=>obtain⟨p,rfl⟩:=hr;exact hpn p e a rfl
theorem tK(h:qU Z){i:Nat}{d:Int}(hi:i<Z.T.length)(s:Str):li (fun n=>lB n s (Z.st i d)) (RU Z d (Z.S.take s i)):=by
 refine li.fn (fun n=>by simp only[lB,kq,Cq,pu];exact rfl) ?_
 have go: ∀c:Bool,li (fun n=>(lA n c (Z.st i d)).bind fun x=>BQ x (fun x=>(kE n x.fst.fst.fst).bind fun x=>some (PR.ok (((x.fst.fst,()),()),()))) fun y=>some (PR.pn (((y.fst.fst.fst,()),()),y.snd.fst,())))
  (RU Z d (bif c then .ok () (Z.S.nx i) else Z.S.bad i)):=by
  intro c;refine li.bind (CH h hi c) fun r hr=> ?_
  cases c with
  |true=>
   obtain⟨_,rfl⟩:=hr;exact Ev.tot (Ev.bind (ug h hi) Ev.pure) ⟨qx hi,rfl⟩
  |false=>
   obtain⟨p,rfl⟩:=hr;exact li.pure ⟨p,rfl⟩
 refine Ev.to (DI hi s) ?_;unfold Src.take;cases hs:Z.S.sym s i with
 |true=>exact go true
 |false=>
  simp only[jv,gr];refine Ev.to (Ze hi 3 s) ?_;exact go _
end
section
variable {Z:Cx}
theorem aoW: ∀s:Str,gC s [46]=s.contains 46:=by
 intro s;induction s with
 |nil=>rfl
 |cons x r ih=>
  grind [gC,gZ]
theorem ary(s:Str)(h:s.length<=100000):Ev (fun n=>strings_Contains n s [46]) (ajJ s):=by
 refine⟨1,fun n hn=> ?_⟩;obtain⟨k,rfl⟩: ∃k,n=k+1:=⟨n-1,by omega⟩;show(bif decide (s.length<4294967281) then some (gC s [46]) else none)=_;rw[jw (by omega),aoW];rfl
theorem aaj(h:qU Z){i:Nat}{d:Int}(hi:i<Z.T.length):Ev (fun n=>rM n (Z.st i d)) (Z.S.simple i):=by
 refine Ev.fn (fun n=>by simp only[rM,kq,Ap,mB];exact rfl) ?_;refine Ev.bind (BA hi) ?_;unfold Src.simple;rw[EP hi];cases Z.T[i].kind==0 with
 |true=>
  refine Ev.bind (ary _ (h.at_ _ (gx hi)).2.2) ?_;rw[gh];exact Ev.pure
 |false=>exact Ev.pure
theorem LG(h:qU Z){i:Nat}{d:Int}(hi:i<Z.T.length):Ev (fun n=>pR n (Z.st i d)) (Z.S.isVar i):=by
 refine Ev.fn (fun n=>by simp only[pR,kq,wj,mB];exact rfl) ?_;refine Ev.bind (aaj h hi) ?_;unfold Src.isVar;cases Z.S.simple i with
 |true=>exact Ev.pure
 |false=>rw[gr];exact Ev.bind (DI hi [95]) Ev.pure
theorem taken(h:qU Z){i:Nat}{d:Int}(hi:i<Z.T.length){R:Type}{A:Nat->jG×Unit->Str->Option R}{B:Nat->(((jG×Unit)×Unit)×(jT×Unit))->Option R}{Q:Rs α->R->Prop}{x:Rs α}
 (hok:li (fun n=>A n (Z.st (Z.S.nx i) d,()) (Z.S.K i).2) (Q x)) (hpn: ∀p e a,li (fun n=>B n (((p,()),()),{e:=e,at_:=a},())) (Q (.er e a))):
 li (fun n=>(lA n c (Z.st i d)).bind fun x=>BQ x (fun x=>(kE n x.fst.fst.fst).bind fun x=>A n x.fst x.snd.fst) (B n)) (Q (bif c then x else Z.S.bad i)):=by
 refine li.bind (CH h hi c) fun r hr=> ?_
 cases c with
 |true=>
  obtain⟨_,rfl⟩:=hr;exact li.bind (Ev.tot (ug h hi) rfl) fun r hr=>by subst hr;exact hok
 |false=>
  obtain⟨p,rfl⟩:=hr;exact hpn _ _ _
theorem VO(h:qU Z){i:Nat}{d:Int}(hi:i<Z.T.length):li (fun n=>nF n (Z.st i d)) (RP Z d (Z.S.var i)):=by
 refine li.fn (fun n=>by simp only[nF,kq,xW,pu];exact rfl) ?_;refine Ev.to (LG h hi) ?_;exact taken (A:=fun n p s=>some (PR.ok (((p,()),s,())))) (Q:=RP Z d) h hi (li.pure ⟨qx hi,rfl⟩) fun p e a=>li.pure ⟨p,rfl⟩
theorem afD(h:qU Z){i:Nat}{d:Int}(hi:i<Z.T.length):li (fun n=>ou n (Z.st i d)) (RP Z d (Z.S.Jn i)):=by
 refine li.fn (fun n=>by simp only[ou,kq,wk,pu];exact rfl) ?_;refine Ev.to (aaj h hi) ?_;exact taken (A:=fun n p s=>some (PR.ok (((p,()),s,())))) (Q:=RP Z d) h hi (li.pure ⟨qx hi,rfl⟩) fun p e a=>li.pure ⟨p,rfl⟩
theorem ajK(h:qU Z){i:Nat}{d:Int}(hi:i<Z.T.length):li (fun n=>wm n (Z.st i d)) (RP Z d (Z.S.name i)):=by
 refine li.fn (fun n=>by simp only[wm,kq,Cr,pu];exact rfl) ?_;refine Ev.to (BA hi) ?_;unfold Src.name;rw[show(Z.S.K i).1=Z.T[i].kind by rw[EP hi]];exact taken (A:=fun n p s=>some (PR.ok (((p,()),s,())))) (Q:=RP Z d) h hi (li.pure ⟨qx hi,rfl⟩) fun p e a=>li.pure ⟨p,rfl⟩
theorem auA{s:Str}(h:s.length<=18/\Lib.atoi s=some (aah s)):Ev (fun n=>strconv_Atoi n s) (aah s,()):=by
 refine⟨1,fun n hn=> ?_⟩;obtain⟨k,rfl⟩: ∃k,n=k+1:=⟨n-1,by omega⟩
 grind [strconv_Atoi]
theorem abX(h:qU Z){i:Nat}{d:Int}(hi:i<Z.T.length):li (fun n=>pE n (Z.st i d)) (RP Z d (Z.S.num i)):=by
 refine li.fn (fun n=>by simp only[pE,kq,AB,pu];exact rfl) ?_;refine Ev.to (BA hi) ?_;unfold Src.num;rw[show(Z.S.K i).1=Z.T[i].kind by rw[EP hi]];refine li.bind (CH h hi _) fun r hr=> ?_
 cases hk:Z.T[i].kind==1 with
 |true=>
  rw[hk] at hr;obtain⟨_,rfl⟩:=hr;refine Ev.to (ug h hi) ?_;rw[EP hi];refine Ev.to (auA (h.num _ (gx hi) (jB.1 hk)).1) ?_;exact li.pure ⟨qx hi,rfl⟩
 |false=>
  rw[hk] at hr;obtain⟨p,rfl⟩:=hr;exact li.pure ⟨p,rfl⟩
theorem aoX(h:qU Z){d:Int}: ∀(m:Nat)(out:List Str)(i:Nat),i<Z.T.length->m+out.length=200->kW (fun n q=>sY n q (Z.st i d) out) (RP Z d (Z.S.Dn m out i)):=by
 intro m;induction m with
 |zero=>
  intro out i hi hm;refine kW.lp (fun n m=>by simp only[Bb,qo];exact rfl) ?_;refine Ev.BR (LG h hi) ?_;unfold Src.Dn;cases Z.S.isVar i with
  |true=>
   refine Ev.BR (xE h hi (k:=(out.length:Int)) (by omega)) ?_;exact kW.pure ⟨_,rfl⟩
  |false=>exact kW.pure ⟨hi,rfl⟩
 |succ m ih=>
  intro out i hi hm;refine kW.lp (fun n m=>by simp only[Bb,qo];exact rfl) ?_;refine Ev.BR (LG h hi) ?_;unfold Src.Dn;cases Z.S.isVar i with
  |true=>
   refine Ev.BR (yF hi (k:=(out.length:Int)) (by omega)) ?_;refine Ev.BR (ug h hi) ?_
   grind [qx]
  |false=>exact kW.pure ⟨hi,rfl⟩
theorem arz(h:qU Z){i:Nat}{d:Int}(hi:i<Z.T.length):li (fun n=>uT n (Z.st i d)) (RP Z d (Z.S.vars i)):=by
 refine li.fn (fun n=>by simp only[uT,kq,wV];exact rfl) ?_;refine RP.step (VO h hi) (fun s j _ hj=> ?_);refine li.AN (F:=fun n q=>wu n q [s] (Z.st j d)) ?_;refine kW.lp (fun n m=>by simp only[wu,vJ];exact rfl) ?_;refine Ev.BR (LG h hj) ?_;unfold Src.Dn;cases Z.S.isVar j with
 |true=>
  refine Ev.BR (yF hj (k:=1) (by omega)) ?_;refine Ev.BR (ug h hj) ?_
  grind [aoX,qx]
 |false=>exact kW.pure ⟨hj,rfl⟩
end
section
variable {Z:Cx}
def auB(n:Int)(a:jP):jP:={name:=a.name,plus:=a.plus+n}
def auC(n:Int)(a:jP):Bool:=decide (a.plus+n<=999999)
theorem aoY{d:Int}(hj:j<Z.T.length)(a:Int)(hk:0<=k/\k<=999999): ∀(r pre:List jP),pre.length+r.length<=1000000->(∀x∈r,0<=x.plus/\x.plus<=999999)->
 kW (fun n q=>pJ (kB n) n q a k ((pre.length+r.length:Nat):Int) (pre.length:Int) (Z.st j d) (pre++r)) (RP Z d (bif r.all (auC k) then .ok (pre++r.map (auB k)) j else .er 5 a)):=by
 intro r;induction r with
 |nil=>
  intro pre _ _;refine kW.lp (fun n m=>by simp only[D5,sW,pK,pu];exact rfl) ?_;rw[jx (by simp)];exact kW.pure ⟨hj,by simp⟩
 |cons x r ih=>
  intro pre hl hx;refine kW.lp (fun n m=>by simp only[D5,sW,pK,pu];exact rfl) ?_;have hlen:(x::r).length=r.length+1:=rfl;have hx1:=hx x (by simp);have e1:decide ((pre.length:Int)<((pre.length+(x::r).length:Nat):Int))=true:=jw (by omega);have hlt:pre.length<(pre++x::r).length:=by simp
  have e2:tu (pre++x::r) (pre.length:Int)=some x:=by rw[n8 hlt];simp
  have e3:(pre++x::r)[pre.length]? =some x:=by simp
  simp only[e1,e2,e3,ju,gu,gy,jw hlt,jw (Int.natCast_nonneg pre.length),Bool.and_self];rw[wrap_small (n:=x.plus+k) (by omega) (by omega)]
  have e6:(x::r).all (auC k)=(!decide (999999<x.plus+k)&&r.all (auC k)):=by
   grind [auC]
  rw[e6];cases decide (999999<x.plus+k) with
  |true=>exact kW.pure ⟨_,rfl⟩
  |false=>
   simp only[jv,gv,gh];rw[kz (by omega)];have:=ih (pre++[auB k x]) (by grind) (fun y hy=>hx y (by simp [hy]));rw[gT,List.length_singleton] at this;rw[show(pre++x::r).set pre.length {name:=x.name,plus:=x.plus+k}=pre++[auB k x]++r by simp [auB]];rw[show pre.length+(x::r).length=pre.length+1+r.length by omega]
   grind
end
def Src.Ec(S:Src)(e a:Int):Prop:=e≠0/\ ∃i j,i<S.len/\j<S.len/\S.F i<=a/\a<=S.F j
def Rs.Ht(S:Src)(P:α->Nat->Prop):Rs α->Prop
 | .ok x j=>P x j
 | .er e a=>S.Ec e a
section
variable {S:Src}
theorem Rs.Ht.er{e:Int}{i:Nat}(hi:i<S.len)(he:e≠0:=by decide):(Rs.er e (S.F i):Rs α).Ht S P:=⟨he,i,i,hi,hi,gb _,gb _⟩
theorem Rs.Ht.bind{Q:β->Nat->Prop}{r:Rs α}{f:α->Nat->Rs β}(h:r.Ht S P)(hf: ∀x j,P x j->(f x j).Ht S Q):(r.bind f).Ht S Q:=by
 cases r with
 |ok x j=>exact hf x j h
 |er e a=>exact h
theorem Rs.Ht.imp {Q:α->Nat->Prop}{r:Rs α}(h:r.Ht S P)(hf: ∀x j,P x j->Q x j):r.Ht S Q:=by
 cases r with
 |ok x j=>exact hf x j h
 |er e a=>exact h
theorem Rs.Ht.pO{r s:Rs α}(h1:c=true->r.Ht S P)(h2:c=false->s.Ht S P):(bif c then r else s).Ht S P:=by
 grind
end
structure XL(S:Src):Prop where
 last: ∀i,i<S.len->(S.K i).1≠4->i+1<S.len
 num: ∀i,i<S.len->(S.K i).1=1->0<=aah (S.K i).2/\aah (S.K i).2<=999999
namespace XL
variable {S:Src} (h:XL S)
include h
theorem nx{i:Nat}(hi:i<S.len)(hk:(S.K i).1≠4):S.nx i=i+1/\i+1<S.len:=by
 have:=h.last i hi hk
 grind [Src.nx]
theorem isN{i:Nat}{s:Str}(hi:i<S.len)(hs:S.is k s i=true)(hk:k≠4):S.nx i=i+1/\i+1<S.len:=by
 unfold Src.is at hs;rw[gp,jB] at hs;exact h.nx hi (by rw[hs.1];exact hk)
theorem HX{i:Nat}{s:Str}(hi:i<S.len)(hs:S.sym s i=true):S.nx i=i+1/\i+1<S.len:=h.isN hi hs (by decide)
theorem amn{i:Nat}{s:Str}(hi:i<S.len)(hs:S.key s i=true):S.nx i=i+1/\i+1<S.len:=h.isN hi hs (by decide)
theorem ag5{i:Nat}(hi:i<S.len)(hs:S.simple i=true):S.nx i=i+1/\i+1<S.len:=by
 unfold Src.simple at hs;rw[gp,jB] at hs;exact h.nx hi (by rw[hs.1];decide)
theorem ay3{i:Nat}(hi:i<S.len)(hs:S.isVar i=true):S.nx i=i+1/\i+1<S.len:=by
 unfold Src.isVar at hs;rw[hJ] at hs;rcases hs with hs|hs
 ·exact h.ag5 hi hs
 ·exact h.HX hi hs
theorem take{i:Nat}(hi:i<S.len)(s:Str):(S.take s i).Ht S fun _ j=>j=i+1/\j<S.len:=by
 unfold Src.take;refine .pO (fun hc=> ?_) fun _=> .er hi
 rw[hJ] at hc;rcases hc with hc|hc
 ·obtain⟨e,hl⟩:=h.HX hi hc;exact⟨e,by rw[e];exact hl⟩
 ·obtain⟨e,hl⟩:=h.amn hi hc;exact⟨e,by rw[e];exact hl⟩
theorem var{i:Nat}(hi:i<S.len):(S.var i).Ht S fun _ j=>j=i+1/\j<S.len:=by
 unfold Src.var;refine .pO (fun hc=> ?_) fun _=> .er hi
 obtain⟨e,hl⟩:=h.ay3 hi hc;exact⟨e,by rw[e];exact hl⟩
theorem Jn{i:Nat}(hi:i<S.len):(S.Jn i).Ht S fun _ j=>j=i+1/\j<S.len:=by
 unfold Src.Jn;refine .pO (fun hc=> ?_) fun _=> .er hi
 obtain⟨e,hl⟩:=h.ag5 hi hc;exact⟨e,by rw[e];exact hl⟩
theorem name{i:Nat}(hi:i<S.len):(S.name i).Ht S fun _ j=>j=i+1/\j<S.len:=by
 unfold Src.name;refine .pO (fun hc=> ?_) fun _=> .er hi
 obtain⟨e,hl⟩:=h.nx hi (by rw[jB.1 hc];decide);exact⟨e,by rw[e];exact hl⟩
theorem number{i:Nat}(hi:i<S.len):(S.num i).Ht S fun n j=>(0<=n/\n<=999999)/\j=i+1/\j<S.len:=by
 unfold Src.num;refine .pO (fun hc=> ?_) fun _=> .er hi
 have hk:=jB.1 hc;obtain⟨e,hl⟩:=h.nx hi (by rw[hk];decide);exact⟨h.num i hi hk,e,by rw[e];exact hl⟩
theorem Dn: ∀(m:Nat)(out:List Str)(i:Nat),i<S.len->(S.Dn m out i).Ht S fun l j=>l.length<=out.length+m/\l.length+i=out.length+j/\i<=j/\j<S.len
 |0,out,i,hi=>by
  unfold Src.Dn;exact .pO (fun _=> .er hi) fun _=>⟨gf _,rfl,gf _,hi⟩
 |m+1,out,i,hi=>by
  unfold Src.Dn;refine .pO (fun hc=> ?_) fun _=>⟨Nat.le_add_right _ _,rfl,gf _,hi⟩
  obtain⟨e,hl⟩:=h.ay3 hi hc;rw[e];refine(Dn m _ _ hl).imp fun l j ⟨h1,h2,h3,h4⟩=> ?_
  grind
theorem vars{i:Nat}(hi:i<S.len):(S.vars i).Ht S fun l j=>1<=l.length/\l.length<=200/\i<j/\j<S.len:=by
 unfold Src.vars;refine(h.var hi).bind fun s k ⟨e,hk⟩=> ?_
 subst e;refine(h.Dn 199 [s] _ hk).imp fun l j ⟨h1,h2,h3,h4⟩=> ?_
 grind
theorem listed{α:Type}{one:Nat->Rs (List α)}{P:α->Prop}(h1: ∀i,i<S.len->(one i).Ht S fun l j=>l.length+i<=j/\i<j/\j<S.len/\ ∀x∈l,P x): ∀(m:Nat)(out:List α)(i:Nat),i<S.len->(∀x∈out,P x)->
 (S.listed one m out i).Ht S fun l j=>l.length+i<=out.length+j/\i<j/\j<S.len/\ ∀x∈l,P x
 |0,_,_,hi,_=> .er hi
 |m+1,out,i,hi,ho=>by
  unfold Src.listed;refine(h1 i hi).bind fun l j ⟨k1,k2,k3,k4⟩=> ?_
  have hall: ∀x∈out++l,P x:=fun x hx=>(gB.1 hx).elim (ho x) (k4 x)
  refine .pO (fun hc=> ?_) fun _=>⟨by rw[gT];omega,k2,k3,hall⟩
  obtain⟨e,hl⟩:=h.HX k3 hc;rw[e];refine(listed h1 m _ _ hl hall).imp fun l' j' ⟨q1,q2,q3,q4⟩=> ?_
  grind
def SmA(a:jP):Prop:=0<=a.plus/\a.plus<=999999
theorem plus{out:List jP}{i:Nat}(hi:i<S.len)(ho: ∀x∈out,SmA x):(S.plus out i).Ht S fun l j=>l.length=out.length/\i<=j/\j<S.len/\ ∀x∈l,SmA x:=by
 unfold Src.plus;refine .pO (fun hc=> ?_) fun _=>⟨rfl,gf _,hi,ho⟩
 obtain⟨e,hl⟩:=h.HX hi hc;rw[e];refine(h.number hl).bind fun n j ⟨hn,e2,hj⟩=> ?_
 subst e2;refine .pO (fun hall=>⟨by rw[List.length_map],by omega,hj,fun x hx=> ?_⟩) fun _=> .er hl
 grind [SmA]
theorem qw: ∀(f i:Nat),i<S.len->(S.qw f i).Ht S fun l j=>l.length+i<=j/\i<j/\j<S.len/\ ∀x∈l,SmA x
 |0,_,hi=> .er hi
 |f+1,i,hi=>by
  unfold Src.qw;refine Rs.Ht.bind (P:=fun l j=>l.length+i<=j/\i<j/\j<S.len/\ ∀x∈l,SmA x) ?_ fun l j ⟨k1,k2,k3,k4⟩=>(h.plus k3 k4).imp fun l' j' ⟨q1,q2,q3,q4⟩=>⟨by omega,by omega,q3,q4⟩
  refine .pO (fun hc=> ?_) fun _=> .pO (fun hc=> ?_) fun _=> ?_
  ·refine(h.number hi).bind fun n j ⟨hn,e,hj⟩=> ?_
   subst e;exact⟨by simp;omega,by omega,hj,fun x hx=>by rw[gA.1 hx];exact hn⟩
  ·rw[gp,gp] at hc;obtain⟨c1,c2,c3⟩:=hc;obtain⟨e,hl⟩:=h.isN hi c1 (by decide);rw[e];obtain⟨e2,hl2⟩:=h.HX hl c3;rw[e2];refine(h.listed (fun i hi=>qw f i hi) 200 [] _ hl2 (by simp)).bind fun l j ⟨q1,q2,q3,q4⟩=> ?_
   refine(h.take q3 _).bind fun _ k ⟨e3,hk⟩=> ?_
   subst e3;rw[gK] at q1;exact⟨by omega,by omega,hk,q4⟩
  ·refine(h.Jn hi).bind fun s j ⟨e,hj⟩=> ?_
   subst e;exact⟨by simp;omega,by omega,hj,fun x hx=>by rw[gA.1 hx];exact⟨gb 0,(by decide:(0:Int)<=999999)⟩⟩
end XL
theorem Rs.bind_assoc {γ:Type}(r:Rs α)(f:α->Nat->Rs β)(g:β->Nat->Rs γ):(r.bind f).bind g=r.bind fun x j=>(f x j).bind g:=by cases r<;>rfl
section
variable {Z:Cx}
def RL(Z:Cx)(d:Int):Rs (List α)->PR (((jG×Unit)×(Unit×(Unit×((List α)×Unit))))×Unit) (((jG×Unit)×(Unit×(Unit×((List α)×Unit))))×(jT×Unit))->Prop
 | .ok l j,r=>j<Z.T.length/\r= .ok (((Z.st j d,()),(),(),l,()),())
 | .er e a,r=> ∃p l,r= .pn (((p,()),(),(),l,()),{e:=e,at_:=a},())
theorem ads(h:qU Z)(k:XL Z.S){d:Int}(hj:j<Z.T.length){l:List jP}(hl:l.length<=1000000)(hx: ∀x∈l,XL.SmA x){L:Int}(hL:L=(l.length:Int)):
 li (fun n=>(kZ n (Z.st j d) [43]).bind fun x_1=>bif x_1.snd.fst then(nN n x_1.fst.fst).bind fun x_2=>(pE n x_1.fst.fst).bind fun x_3=>
  BQ x_3 (fun x_4=>pJ (kB n) n n x_2 x_4.snd.fst L 0 x_4.fst.fst.fst l) (fun y=>some (PR.pn (((y.fst.fst.fst,()),()),y.snd.fst,()))) else some (PR.ok (((x_1.fst.fst,()),()),l,()))) (RP Z d (Z.S.plus l j)):=by
 subst hL;refine Ev.to (qf h hj [43]) ?_;unfold Src.plus;cases hs:Z.S.sym [43] j with
 |false=>exact li.pure ⟨hj,rfl⟩
 |true=>
  simp only[ju];have hj2:=qx hj;refine Ev.to (VN h hj2) ?_;refine RP.step (abX h hj2) (fun n q hq hql=> ?_);have hn:=k.number (i:=Z.S.nx j) hj2;rw[hq] at hn;have:=aoY (d:=d) hql (Z.S.F (Z.S.nx j)) hn.1 l [] (by simpa using hl) hx;simp only[gK,Nat.zero_add,List.nil_append,Int.natCast_zero] at this;exact li.AN (F:=fun n q'=>pJ (kB n) n q' (Z.S.F (Z.S.nx j)) _ (l.length:Int) 0 (Z.st q d) l) this
theorem auD(h:qU Z)(k:XL Z.S){f:Nat}{d:Int}(hA: ∀i,i<Z.T.length->Z.T.length-i<=f->li (fun n=>nC n (Z.st i d)) (RP Z d (Z.S.qw f i))):
 ∀ (m:Nat) (out:List jP) (i:Nat),i<Z.T.length->m<=200->out.length<=i->Z.T.length-i<=f->
   kW (fun n q=>mU (kB n) n q ((200-m:Nat):Int) (Z.st i d) out) (RL Z d (Z.S.listed (Z.S.qw f) m out i)):=by
 intro m;induction m with
 |zero=>
  intro out i hi _ ho hf;refine kW.lp (fun n m=>by simp only[qS,lT,pK,pu];exact rfl) ?_;refine Ev.BR (xE h hi (k:=((200-0:Nat):Int)) (by omega)) ?_;exact kW.pure ⟨_,_,rfl⟩
 |succ m ih=>
  intro out i hi hm ho hf;have hlen:=h.len;refine kW.lp (fun n m=>by simp only[qS,lT,pK,pu];exact rfl) ?_;refine Ev.BR (yF hi (k:=((200-(m+1):Nat):Int)) (by omega)) ?_;have hall:=k.qw f i hi
  refine kW.lH (P:=fun r=>match Z.S.qw f i with
   | .ok l j=>j<Z.T.length/\r=PR.ok (((),(),out++l,(Z.st j d,()),()),())
   | .er e a=> ∃p,r=PR.pn (((),(),out,(p,()),()),{e:=e,at_:=a},())) ?_ fun r hr=> ?_
  ·refine li.fn (fun n=>by simp only[O6,uR,pK,pu];exact rfl) ?_;refine li.bind (hA i hi hf) fun r hr=> ?_
   cases hq:Z.S.qw f i with
   |er e a=>
    rw[hq] at hr;obtain⟨p,rfl⟩:=hr;exact li.pure ⟨p,rfl⟩
   |ok l j=>
    rw[hq] at hr hall;obtain⟨hj,rfl⟩:=hr;obtain⟨q1,q2,q3,q4⟩:=hall;have q3:j<Z.T.length:=q3;simp only[BQ,jw (show(out.length+l.length)*24<=17592186044416 by omega),ju];exact li.pure ⟨hj,rfl⟩
  ·unfold Src.listed;cases hq:Z.S.qw f i with
   |er e a=>
    rw[hq] at hr;obtain⟨p,rfl⟩:=hr;exact kW.pure ⟨_,_,rfl⟩
   |ok l j=>
    rw[hq] at hr hall;obtain⟨hj,rfl⟩:=hr;obtain⟨q1,q2,q3,q4⟩:=hall;refine Ev.BR (qf h hj [44]) ?_;simp only[Rs.bind];cases hs:Z.S.sym [44] j with
    |true=>
     obtain⟨e,hl⟩:=k.HX hj hs
     grind [wrap_small,qx]
    |false=>exact kW.pure ⟨hj,rfl⟩
end
theorem Rs.ag6(x:α)(j:Nat)(f:α->Nat->Rs β):(Rs.ok x j).bind f=f x j:=rfl
section
variable {Z:Cx}
theorem amo(h:qU Z)(k:XL Z.S){d:Int}{i:Nat}(hi:i<Z.T.length):
 li (fun n=>(ou n (Z.st i d)).bind fun x=>BQ x (fun x=>(kZ n x.fst.fst.fst [43]).bind fun x_1=>bif x_1.snd.fst then(nN n x_1.fst.fst).bind fun x_2=>(pE n x_1.fst.fst).bind fun x_3=>
  BQ x_3 (fun x_4=>pJ (kB n) n n x_2 x_4.snd.fst 1 0 x_4.fst.fst.fst [{name:=x.snd.fst,plus:=0}]) (fun y=>some (PR.pn (((y.fst.fst.fst,()),()),y.snd.fst,()))) else some (PR.ok (((x_1.fst.fst,()),()),[{name:=x.snd.fst,plus:=0}],()))) fun y=>some (PR.pn (((y.fst.fst.fst,()),()),y.snd.fst,())))
  (RP Z d ((Z.S.Jn i).bind fun s j=>Z.S.plus [{name:=s,plus:=0}] j)):=by
 refine RP.step (afD h hi) (fun s j _ hj=> ?_);exact ads h k hj (by simp) (fun x hx=>by rw[gA.1 hx];exact⟨gb 0,(by decide:(0:Int)<=999999)⟩) rfl
theorem aoZ (h:qU Z) (k:XL Z.S) {d:Int}: ∀ (f i:Nat),i<Z.T.length->Z.T.length-i<=f->li (fun n=>nC n (Z.st i d)) (RP Z d (Z.S.qw f i)):=by
 intro f;induction f with
 |zero=>intro i hi hf;omega
 |succ f ih=>
  intro i hi hf;have hlen:=h.len;refine li.fn (fun n=>by simp only[Sb,wF,pK,pu];exact rfl) ?_;refine Ev.to (BA hi) ?_;unfold Src.qw;rw[show(Z.S.K i).1=Z.T[i].kind by rw[EP hi]];cases hk:Z.T[i].kind==1 with
  |true=>
   simp only[ju];rw[Rs.bind_assoc];refine RP.step (abX h hi) (fun n j hq hj=> ?_);have hn:=k.number (i:=i) hi;rw[hq] at hn;exact ads h k hj (by simp) (fun x hx=>by rw[gA.1 hx];exact hn.1) rfl
  |false=>
   simp only[jv];refine Ev.to (Ze hi 0 [109,97,120]) ?_;have hsn:=amo (d:=d) h k hi;cases hmx:Z.S.is 0 [109,97,120] i with
   |false=>
    simp only[jv,hO];rw[Rs.bind_assoc];exact hsn
   |true=>
    have hmi:=k.isN hi hmx (by decide);have hi1:i+1<Z.T.length:=hmi.2;have e1:IntKind.i64.wrap ((i:Int)+1)=((i+1:Nat):Int):=kz (by omega);have e2:decide (((i+1:Nat):Int)<(Z.T.length:Int))=true:=jw (by omega);have e3:decide (i+1<Z.S.len)=true:=jw hi1;simp only[ju,Cx.st,e1,e2,n8 hi1,gu,e3,gh];have e4:Z.S.sym [40] (i+1)=((Z.T[i+1].kind==2)&&(Z.T[i+1].text==[40])):=by unfold Src.sym Src.is;rw[EP hi1]
    cases hk2:Z.T[i+1].kind==2 with
    |false=>
     rw[hk2,hO] at e4;rw[e4];simp only[jv];rw[Rs.bind_assoc];exact hsn
    |true=>
     cases ht2:Z.T[i+1].text==[40] with
     |false=>
      rw[hk2,ht2] at e4;rw[e4];simp only[ju,jv,Bool.and_false];rw[Rs.bind_assoc];exact hsn
     |true=>
      rw[hk2,ht2] at e4;have e4:Z.S.sym [40] (i+1)=true:=e4;rw[e4];simp only[ju];have hs1:=k.HX hi1 e4;refine Ev.to (ug (d:=d) h hi) ?_;rw[hmi.1];refine Ev.to (ug (d:=d) h hi1) ?_;rw[hs1.1];have hi2:i+1+1<Z.T.length:=hs1.2;have avH:=k.listed (fun i hi=>k.qw f i hi) 200 [] _ hi2 (by simp);rw[Rs.bind_assoc];refine li.bind (P:=RL Z d (Z.S.listed (Z.S.qw f) 200 [] (i+1+1))) ?_ fun r hr=> ?_
      ·refine li.fn (fun n=>by simp only[zw,ng,pK,pu];exact rfl) ?_
       grind [li.AN,auD]
      ·cases hq:Z.S.listed (Z.S.qw f) 200 [] (i+1+1) with
       |er e a=>
        rw[hq] at hr;obtain⟨p,l,rfl⟩:=hr;exact li.pure ⟨_,rfl⟩
       |ok l j=>
        rw[hq] at hr avH;obtain⟨hj,rfl⟩:=hr;obtain⟨q1,q2,q3,q4⟩:=avH;have q3:j<Z.T.length:=q3;simp only[ama,Rs.ag6];rw[Rs.bind_assoc];refine RU.step (tK h hj [41]) (fun q hq' hql=> ?_);exact ads h k hql (by rw[gK] at q1;omega) q4 rfl
theorem afE(h:qU Z)(k:XL Z.S){d:Int}{i:Nat}(hi:i<Z.T.length):li (fun n=>vg n (Z.st i d)) (RP Z d (Z.S.level i)):=by
 refine li.fn (fun n=>by simp only[vg,kq,By,pu];exact rfl) ?_;refine Ev.to (qf h hi [95]) ?_;unfold Src.level;cases hs:Z.S.sym [95] i with
 |true=>exact li.pure ⟨qx hi,rfl⟩
 |false=>
  simp only[jv];refine RP.step (aoZ h k Z.S.len i hi (Nat.sub_le _ _)) (fun l j _ hj=>li.pure ⟨hj,rfl⟩)
theorem auE(h:qU Z)(k:XL Z.S){d:Int}{i:Nat}(hi:i<Z.T.length):li (fun n=>BM n (Z.st i d)) (RP Z d (Z.S.one i)):=by
 refine li.fn (fun n=>by simp only[BM,kq,DD,pu];exact rfl) ?_;refine Ev.to (BA hi) ?_;unfold Src.one;rw[show(Z.S.K i).1=Z.T[i].kind by rw[EP hi]];cases hk:Z.T[i].kind==1 with
 |true=>
  simp only[ju];exact RP.step (abX h hi) (fun l j _ hj=>li.pure ⟨hj,rfl⟩)
 |false=>
  simp only[jv];refine Ev.to (aaj h hi) ?_;cases hs:Z.S.simple i with
  |true=>
   simp only[ju];refine Ev.to (ug h hi) ?_;exact li.pure ⟨qx hi,rfl⟩
  |false=>
   simp only[jv];refine Ev.to (qf h hi [40]) ?_;cases ho:Z.S.sym [40] i with
   |true=>
    simp only[ju];refine RP.step (afE h k (qx hi)) (fun l j _ hj=> ?_);exact RU.step (tK h hj [41]) (fun q _ hql=>li.pure ⟨hql,rfl⟩)
   |false=>
    simp only[jv];refine Ev.to (qf h hi [95]) ?_;refine li.pure ⟨?_,rfl⟩;cases Z.S.sym [95] i with
    |true=>exact qx hi
    |false=>exact hi
end
def LSm(l:jM):Prop:=l.qw.length<=200000
namespace XL
variable {S:Src} (h:XL S)
include h
theorem level(hl:S.len<=100000){i:Nat}(hi:i<S.len):(S.level i).Ht S fun x j=>i<j/\j<S.len/\LSm x:=by
 unfold Src.level;refine .pO (fun hc=> ?_) fun _=> ?_
 ·obtain⟨e,hj⟩:=h.HX hi hc;rw[e];exact⟨by omega,hj,gi _⟩
 ·refine(h.qw S.len i hi).bind fun l j ⟨h1,h2,h3,h4⟩=>⟨h2,h3,?_⟩
  unfold LSm;simp only;omega
theorem one(hl:S.len<=100000){i:Nat}(hi:i<S.len):(S.one i).Ht S fun x j=>i<=j/\j<S.len/\LSm x:=by
 unfold Src.one;refine .pO (fun hc=> ?_) fun _=> .pO (fun hc=> ?_) fun _=> .pO (fun hc=> ?_) fun _=> ?_
 ·exact(h.number hi).bind fun n j ⟨hn,e,hj⟩=>⟨by omega,hj,(by decide:1<=200000)⟩
 ·obtain⟨e,hj⟩:=h.ag5 hi hc;rw[e];exact⟨by omega,hj,(by decide:1<=200000)⟩
 ·obtain⟨e,hj⟩:=h.HX hi hc;rw[e];refine(h.level hl hj).bind fun l j ⟨h1,h2,h3⟩=> ?_
  exact(h.take h2 _).bind fun _ k ⟨e,hk⟩=>⟨by omega,hk,h3⟩
 ·cases hs:S.sym [95] i with
  |true=>
   obtain⟨e,hj⟩:=h.HX hi hs;rw[ju,e];exact⟨by omega,hj,gi _⟩
  |false=>exact⟨gf _,hi,gi _⟩
theorem aw7(hl:S.len<=100000){i:Nat}(hi:i<S.len):((S.level i).bind fun l j=>Rs.ok [l] j).Ht S fun l j=>l.length+i<=j/\i<j/\j<S.len/\ ∀x∈l,LSm x:=
 (h.level hl hi).bind fun l j ⟨h1,h2,h3⟩=>⟨by simp;omega,h1,h2,fun x hx=>by grind⟩
theorem levels(hl:S.len<=100000){i:Nat}(hi:i<S.len):(S.levels i).Ht S fun l j=>i<=j/\j<S.len/\l.length<=100000/\ ∀x∈l,LSm x:=by
 unfold Src.levels;refine .pO (fun hc=> ?_) fun _=>⟨gf _,hi,by simp,by simp⟩
 obtain⟨e,hj⟩:=h.HX hi hc;rw[e];refine(h.listed (fun i hi=>h.aw7 hl hi) 200 [] _ hj (by simp)).bind fun l j ⟨q1,q2,q3,q4⟩=> ?_
 rw[gK] at q1;exact(h.take q3 _).bind fun _ k ⟨e,hk⟩=>⟨by omega,hk,by omega,q4⟩
end XL
section
variable {Z:Cx}
theorem auF(h:qU Z)(k:XL Z.S){d:Int}: ∀(m:Nat)(out:List jM)(i:Nat),i<Z.T.length->m<=200->out.length<=i->
 kW (fun n q=>lN n q ((200-m:Nat):Int) (Z.st i d) out) (RL Z d (Z.S.listed (fun i=>(Z.S.level i).bind fun l j=> .ok [l] j) m out i)):=by
 intro m;induction m with
 |zero=>
  intro out i hi _ ho;refine kW.lp (fun n m=>by simp only[qO,lM,pu];exact rfl) ?_;refine Ev.BR (xE h hi (k:=((200-0:Nat):Int)) (by omega)) ?_;exact kW.pure ⟨_,_,rfl⟩
 |succ m ih=>
  intro out i hi hm ho;have hlen:=h.len;refine kW.lp (fun n m=>by simp only[qO,lM,pu];exact rfl) ?_;refine Ev.BR (yF hi (k:=((200-(m+1):Nat):Int)) (by omega)) ?_;have hall:=k.level hlen hi
  refine kW.lH (P:=fun r=>match Z.S.level i with
   | .ok l j=>j<Z.T.length/\r=PR.ok (((),(),out++[l],(Z.st j d,()),()),())
   | .er e a=> ∃p,r=PR.pn (((),(),out,(p,()),()),{e:=e,at_:=a},())) ?_ fun r hr=> ?_
  ·refine li.fn (fun n=>by simp only[AH,kq,xY,pu];exact rfl) ?_;refine li.bind (afE h k hi) fun r hr=> ?_
   cases hq:Z.S.level i with
   |er e a=>
    rw[hq] at hr;obtain⟨p,rfl⟩:=hr;exact li.pure ⟨p,rfl⟩
   |ok l j=>
    rw[hq] at hr;obtain⟨hj,rfl⟩:=hr;simp only[BQ,jw (show(out.length+1)*32<=17592186044416 by omega),ju];exact li.pure ⟨hj,rfl⟩
  ·unfold Src.listed;cases hq:Z.S.level i with
   |er e a=>
    rw[hq] at hr;obtain⟨p,rfl⟩:=hr;exact kW.pure ⟨_,_,rfl⟩
   |ok l j=>
    rw[hq] at hr hall;obtain⟨hj,rfl⟩:=hr;obtain⟨q1,q2,q3⟩:=hall;refine Ev.BR (qf h hj [44]) ?_;simp only[Rs.bind];cases hs:Z.S.sym [44] j with
    |true=>
     obtain⟨e,hl⟩:=k.HX hj hs;simp only[ju];rw[show IntKind.i64.wrap (((200-(m+1):Nat):Int)+1)=((200-m:Nat):Int) by grind [wrap_small]];exact ih _ _ (qx hj) (by omega) (by grind)
    |false=>exact kW.pure ⟨hj,rfl⟩
theorem adt(h:qU Z)(k:XL Z.S){d:Int}{i:Nat}(hi:i<Z.T.length):li (fun n=>xw n (Z.st i d)) (RP Z d (Z.S.levels i)):=by
 refine li.fn (fun n=>by simp only[xw,kq,AI,pu];exact rfl) ?_;refine Ev.to (qf h hi [46,123]) ?_;unfold Src.levels;cases hs:Z.S.sym [46,123] i with
 |false=>exact li.pure ⟨hi,rfl⟩
 |true=>
  obtain⟨e,hl⟩:=k.HX hi hs;simp only[ju];rw[e];refine li.bind (P:=RL Z d (Z.S.listed (fun i=>(Z.S.level i).bind fun l j=> .ok [l] j) 200 [] (i+1))) ?_ fun r hr=> ?_
  ·refine li.fn (fun n=>by simp only[pm,kq,oJ,pu];exact rfl) ?_;exact li.AN (F:=fun n q=>lN n q 0 (Z.st (i+1) d) []) (auF h k 200 [] _ hl (gf _) (gi _))
  ·cases hq:Z.S.listed (fun i=>(Z.S.level i).bind fun l j=> .ok [l] j) 200 [] (i+1) with
   |er e a=>
    rw[hq] at hr;obtain⟨p,l,rfl⟩:=hr;exact li.pure ⟨_,rfl⟩
   |ok l j=>
    rw[hq] at hr;obtain⟨hj,rfl⟩:=hr;simp only[ama,Rs.ag6];exact RU.step (tK h hj [125]) (fun q _ hql=>li.pure ⟨hql,rfl⟩)
end
section
variable {Z:Cx}
theorem VP{i:Nat}{d:Int}(hi:i<Z.T.length):Ev (fun n=>ul n (Z.st i d)) (Z.S.vN i):=by
 refine Ev.fn (fun n=>by simp only[ul,kq,Aq,mB];exact rfl) ?_;refine Ev.bind (BA hi) ?_;unfold Src.vN Src.sym Src.key Src.is;rw[EP hi];cases h0:Z.T[i].kind==0 with
 |true=>grind [Ev.pure]
 |false=>
  cases h1:Z.T[i].kind==1 with
  |true=>grind [Ev.pure]
  |false=>
   simp only[jv,gr];cases h2:Z.T[i].kind==2 with
   |true=>
    have h3:(Z.T[i].kind==3)=false:=by rw[jB.1 h2];rfl
    grind [Ev.pure]
   |false=>
    grind [Ev.pure]
theorem arA(h:qU Z){i:Nat}{d:Int}(hi:i<Z.T.length):Ev (fun n=>tR n (Z.st i d)) ((Z.st i d,()),Z.S.hole i,()):=by
 refine Ev.fn (fun n=>by simp only[tR,kq,Ca,pu];exact rfl) ?_;refine Ev.bind (Q2 h hi) ?_;exact Ev.bind (Q2 h hi) Ev.pure
theorem amq(h:qU Z){i:Nat}{d:Int}(hi:i<Z.T.length):li (fun n=>uu n (Z.st i d)) (RU Z d (bif (Z.S.K i).1==4 then .ok () i else Z.S.bad i)):=by
 refine li.fn (fun n=>by simp only[uu,kq,AC,pu];exact rfl) ?_;refine Ev.to (BA hi) ?_;rw[show(Z.S.K i).1=Z.T[i].kind by rw[EP hi]];refine li.bind (CH h hi _) fun r hr=> ?_
 cases hk:Z.T[i].kind==4 with
 |true=>rw[hk] at hr;obtain⟨_,rfl⟩:=hr;exact li.pure ⟨hi,rfl⟩
 |false=>rw[hk] at hr;obtain⟨p,rfl⟩:=hr;exact li.pure ⟨p,rfl⟩
theorem Vi(t:j8)(s:Str):Ev (fun n=>uJ n t s) (t.kind==2&&t.text==s):=by
 refine Ev.fn (fun n=>by simp only[uJ,kq,wR,mB];exact rfl) ?_;cases t.kind==2<;>exact Ev.pure
theorem ag7(h:qU Z){d:Int}{i p:Nat}: ∀(f q:Nat)(out:List Str),q+f=Z.T.length->out.length<=q-> ∀k:Nat,∀hk:i+1+k=q,i+1<=Z.T.length->
 kC (fun n m=>rj n m (Z.T.drop (i+1)) ((Z.T.drop (i+1)).length:Int) (k:Int) (Z.st p d) out) ((Z.st p d,()),Z.S.wr f out q,()):=by
 intro f;induction f with
 |zero=>
  intro q out hq ho k hk hi;refine kC.lp (fun n m=>by simp only[Cf,q9,mB];exact rfl) ?_;rw[jx (by rw[gq];omega)];exact kC.pure
 |succ f ih=>
  intro q out hq ho k hk hi;have hlen:=h.len;have hql:q<Z.T.length:=by omega
  have hkl:k<(Z.T.drop (i+1)).length:=by rw[gq];omega
  have e0:(Z.T.drop (i+1))[k]=Z.T[q]:=by grind
  refine kC.lp (fun n m=>by simp only[Cf,q9,mB];exact rfl) ?_;rw[jw (show(k:Int)<((Z.T.drop (i+1)).length:Int) by omega)];simp only[ju,n8 hkl,gu,e0];refine kC.lH (Vi _ _) ?_;unfold Src.wr;have ay5: ∀s,Z.S.sym s q=(Z.T[q].kind==2&&Z.T[q].text==s):=fun s=>by unfold Src.sym Src.is;rw[EP hql]
  rw[ay5];cases Z.T[q].kind==2&&Z.T[q].text==[58] with
  |true=>exact kC.pure
  |false=>
   simp only[jv];refine kC.lH (Vi _ _) ?_;unfold Src.isVar Src.simple;rw[ay5,EP hql];have aAC:=ih (q+1) (out++[Z.T[q].text]) (by omega) (by grind) (k+1) (by omega) hi;have e16:decide ((out.length+1)*16<=17592186044416)=true:=jw (by omega);cases Z.T[q].kind==2&&Z.T[q].text==[95] with
   |true=>
    grind [kz]
   |false=>
    simp only[jv,gU];cases Z.T[q].kind==0 with
    |false=>exact kC.pure
    |true=>
     simp only[ju,gh];refine kC.lH (ary _ (h.at_ _ (gx hql)).2.2) ?_
     grind [kC.pure,kz]
theorem amr(h:qU Z){d:Int}{i q:Nat}(hi:i<Z.T.length)(hq:q<Z.T.length):Ev (fun n=>wA n (Z.st q d) (i:Int)) ((Z.st q d,()),Z.S.written i,()):=by
 refine Ev.fn (fun n=>by simp only[wA,kq,zc,mB];exact rfl) ?_;have hlen:=h.len;have e0:tu (Z.st q d).q7.tokens (i:Int)=some Z.T[i]:=n8 hi;simp only[e0,gu];refine Ev.bind (Vi _ _) ?_;unfold Src.written;rw[show Z.S.sym [40] i=(Z.T[i].kind==2&&Z.T[i].text==[40]) by unfold Src.sym Src.is;rw[EP hi]];cases Z.T[i].kind==2&&Z.T[i].text==[40] with
 |false=>exact Ev.pure
 |true=>
  simp only[ju]
  have e2:decide (0<=((i+1:Nat):Int)/\((i+1:Nat):Int)<=((Z.st q d).q7.tokens.length:Int)/\((Z.st q d).q7.tokens.length:Int)<=((Z.st q d).q7.tokens.length:Int))=true:=
   jw ⟨by omega,by show((i+1:Nat):Int)<=(Z.T.length:Int);omega,gb _⟩
  rw[kz (by omega),e2];simp only[ju,gy,gN];exact Ev.AN (F:=fun n m=>rj n m (Z.T.drop (i+1)) ((Z.T.drop (i+1)).length:Int) 0 (Z.st q d) []) (ag7 h (Z.T.length-(i+1)) (i+1) [] (by omega) (gi _) 0 rfl (by omega))
inductive arB:Syntax->Prop
 |mk {k:Int} {s:Str} {n:Int} {ns:List Str} {ls:List jM} {ks:List Syntax} {f t:Int} (h1:ns.length<=1000000) (h2:ls.length<=1000000) (h3: ∀l∈ls,LSm l) (h4:ks.length<=1000000) (h5: ∀x∈ks,arB x):arB (.mk k s n ns ls ks f t)
theorem ao0{kind num:Int}(l:List jO)(c:jO)(body:Syntax)(f:Int):Src.Ku kind num (l++[c]) body f=Src.Ku kind num l (.mk kind c.name num [] [] [c.t,body] f body.to) f:=by
 grind [Src.Ku]
theorem ao1(x:Syntax)(l:List jO)(hl:l.length<=1000000): ∀(k:Nat),k<=l.length-> ∀body:Syntax,
 kC (fun n m=>sQ n m l ((k:Int)-1) 0 x body) ((((),0),(x,()),(Src.Ku x.kind x.num (l.take k) body x.from_,()),()),()):=by
 intro k;induction k with
 |zero=>
  intro hk body;refine kC.lp (fun n m=>by simp only[AX,qn,mB];exact rfl) ?_;rw[jx (by omega)];exact kC.pure
 |succ k ih=>
  intro hk body;have hkl:k<l.length:=by omega
  refine kC.lp (fun n m=>by simp only[AX,qn,mB];exact rfl) ?_;rw[show((k+1:Nat):Int)-1=(k:Int) by omega,jw (Int.natCast_nonneg k)];simp only[ju,n8 hkl,gu,beq_self_eq_true];refine kC.lH (x:=((((),0),(x,()),(Syntax.mk x.kind l[k].name x.num [] [] [l[k].t,body] x.from_ body.to,()),()),true,())) ?_ ?_
  ·refine Ev.fn (fun n=>by simp only[Al,kq,xL,mB];exact rfl) ?_;exact Ev.pure
  ·simp only[ju];rw[wrap_small (by omega) (by omega)]
   grind [ao0,gV]
theorem ag8(x:Syntax)(l:List jO)(hl:l.length<=1000000)(body:Syntax):Ev (fun n=>zX n x l body) (Src.Ku x.kind x.num l body x.from_):=by
 refine Ev.fn (fun n=>by simp only[zX,kq,NB,mB];exact rfl) ?_;refine Ev.bind (x:=l) ?_ ?_
 ·refine Ev.fn (fun n=>by simp only[Bp,kq,yS,mB];exact rfl) ?_;exact Ev.pure
 ·refine Ev.bind (x:=((((),0),(x,()),(Src.Ku x.kind x.num l body x.from_,()),()),())) ?_ Ev.pure;refine Ev.fn (fun n=>by simp only[za,kq,wS,mB];exact rfl) ?_
  grind [wrap_small,ao1,gN,Ev.AN]
end
theorem ajL(l:List Str)(h:l.length<=1000000):Ev (fun n=>wx n l) ((l,()),()):=by
 refine⟨1,fun n hn=> ?_⟩;obtain⟨k,rfl⟩: ∃k,n=k+1:=⟨n-1,by omega⟩;cases l with
 |nil=>rfl
 |cons x xs=>
  grind [wx,yQ]
theorem ajM(l:List jM)(h:l.length<=1000000):Ev (fun n=>sK n l) ((l,()),()):=by
 refine⟨1,fun n hn=> ?_⟩;obtain⟨k,rfl⟩: ∃k,n=k+1:=⟨n-1,by omega⟩;cases l with
 |nil=>rfl
 |cons x xs=>
  grind [sK,u4]
theorem ajN(l:List Syntax)(h:l.length<=1000000):Ev (fun n=>wy n l) ((l,()),()):=by
 refine⟨1,fun n hn=> ?_⟩;obtain⟨k,rfl⟩: ∃k,n=k+1:=⟨n-1,by omega⟩;cases l with
 |nil=>rfl
 |cons x xs=>
  grind [wy,yR]
theorem ag9(l:List jP)(h:l.length<=1000000):Ev (fun n=>vu n l) l:=by
 refine⟨1,fun n hn=> ?_⟩;obtain⟨k,rfl⟩: ∃k,n=k+1:=⟨n-1,by omega⟩;cases l with
 |nil=>rfl
 |cons x xs=>
  grind [vu,xK]
theorem ao2(h:arB t):Ev (fun n=>sB n t) t:=by
 induction h with
 | @mk k s num ns ls ks f t h1 h2 h3 h4 h5 ih=>
   have kids: ∀(d i:Nat),i+d=ks.length->kC (fun n m=>yZ (sB n) n m (ks.length:Int) (i:Int) k s num f t ns ls ks) (Syntax.mk k s num ns ls ks f t):=by
    intro d;induction d with
    |zero=>
     intro i hi;refine kC.lp (fun n m=>by simp only[K2,yY,mB];exact rfl) ?_
     grind [kC.pure]
    |succ d ihd=>
     intro i hi;have hlt:i<ks.length:=by omega
     refine kC.lp (fun n m=>by simp only[K2,yY,mB];exact rfl) ?_;rw[jw (by omega)];simp only[ju,n8 hlt,gu,gy,gL hlt];refine kC.lH (ih _ (gx hlt)) ?_;rw[hU,kz (by omega)];exact ihd (i+1) (by omega)
   have aAk: ∀(d i:Nat),i+d=ls.length->kC (fun n m=>y9 (sB n) n m (ls.length:Int) (i:Int) k s num ks f t ns ls) (Syntax.mk k s num ns ls ks f t):=by
    intro d;induction d with
    |zero=>
     intro i hi;refine kC.lp (fun n m=>by simp only[K3,y8,mB];exact rfl) ?_;rw[jx (by omega)];simp only[jv];refine kC.lH (ajN ks h4) ?_;exact kC.Xi (Ev.AN (F:=fun n m=>yZ (sB n) n m (ks.length:Int) 0 k s num f t ns ls ks) (kids ks.length 0 (by omega)))
    |succ d ihd=>
     intro i hi;have hlt:i<ls.length:=by omega
     refine kC.lp (fun n m=>by simp only[K3,y8,mB];exact rfl) ?_;rw[jw (by omega)];simp only[ju,n8 hlt,gu,gy,gL hlt];refine kC.lH (ag9 _ (Nat.le_trans (h3 _ (gx hlt)) (by decide))) ?_;simp only[jw hlt,ju];rw[show({hole:=ls[i].hole,qw:=ls[i].qw}:jM)=ls[i] from rfl,hU,kz (by omega)];exact ihd (i+1) (by omega)
   refine Ev.fn (fun n=>by simp only[sB,kq,JE,mB];exact rfl) ?_;refine Ev.bind (ajL ns h1) ?_;refine Ev.bind (ajM ls h2) ?_;exact Ev.AN (F:=fun n m=>y9 (sB n) n m (ls.length:Int) 0 k s num ks f t ns ls) (aAk ls.length 0 (by omega))
theorem ajO(l:List Str)(hl:l.length<=1000000)(h:arB t):Ev (fun n=>CY n l t) (Src.typed l t):=by
 have key: ∀(d i:Nat),i+d=l.length->kC (fun n m=>A1 n m l (l.length:Int) (i:Int) t (Src.typed (l.take i) t)) (Src.typed l t):=by
  intro d;induction d with
  |zero=>
   intro i hi;refine kC.lp (fun n m=>by simp only[MB,A0,mB];exact rfl) ?_
   grind [kC.pure]
  |succ d ihd=>
   intro i hi;have hlt:i<l.length:=by omega
   refine kC.lp (fun n m=>by simp only[MB,A0,mB];exact rfl) ?_;rw[jw (by omega)];simp only[ju,n8 hlt,gu];refine kC.lH (ao2 h) ?_;have hlen:(Src.typed (l.take i) t).length=i:=by grind [Src.typed]
   simp only[hlen,jw (show(i+1)*136<=17592186044416 by omega),ju];rw[kz (by omega),show Src.typed (l.take i) t++[{name:=l[i],t:=t}]=Src.typed (l.take (i+1)) t by grind [Src.typed,gV]];exact ihd (i+1) (by omega)
 refine Ev.fn (fun n=>by simp only[CY,kq,Ld,mB];exact rfl) ?_;exact Ev.AN (F:=fun n m=>A1 n m l (l.length:Int) 0 t []) (key l.length 0 (by omega))
inductive Rg:Syntax->Prop
 |mk {k:Int} {s:Str} {n:Int} {ns:List Str} {ls:List jM} {ks:List Syntax} {f t:Int} (h1:ns.length<=1000000) (h2:ls.length<=1000000) (h3: ∀l∈ls,LSm l) (h4:ks.length<=1000000) (h5:k=13->ks.length=2) (h6:f<=t)
   (h7: ∀x∈ks,Rg x) (h8: ∀x∈ks,f<=x.from_/\x.to<=t):Rg (.mk k s n ns ls ks f t)
theorem Rg.le{x:Syntax}(h:Rg x):x.from_<=x.to:=by cases h;assumption
theorem Rg.leaf{s:Str}{n:Int}{f t:Int}(hk:k≠13)(h6:f<=t)(h1:ns.length<=1000000)(h2:ls.length<=1000000)(h3: ∀l∈ls,LSm l):Rg (.mk k s n ns ls [] f t):=
 .mk h1 h2 h3 (gi _) (fun e=>absurd e hk) h6 (fun x hx=>by cases hx) fun x hx=>by cases hx
theorem Rg.adu{s:Str}{n:Int}{f t:Int}(hk:k≠13)(h6:f<=t):Rg (.mk k s n [] [] [] f t):= .leaf hk h6 (gi _) (gi _) fun l hl=>by cases hl
theorem Rg.two{s:Str}{n:Int}{x y:Syntax}{f t:Int}(hx:Rg x)(hy:Rg y)(h1:f<=x.from_)(h2:x.to<=t)(h3:f<=y.from_)(h4:y.to<=t):Rg (.mk k s n [] [] [x,y] f t):=by
 refine .mk (gi _) (gi _) (fun l hl=>by cases hl) (by decide:2<=1000000) (fun _=>rfl) (by have:=hx.le;omega) (fun z hz=> ?_) fun z hz=> ?_<;>
 ·grind
theorem Rg.one{s:Str}{n:Int}{x:Syntax}{f t:Int}(hk:k≠13)(hx:Rg x)(h1:f<=x.from_)(h2:x.to<=t):Rg (.mk k s n [] [] [x] f t):=by
 refine .mk (gi _) (gi _) (fun l hl=>by cases hl) (by decide:1<=1000000) (fun e=>absurd e hk) (by have:=hx.le;omega) (fun z hz=> ?_) fun z hz=> ?_
 all_goals grind
theorem Rg.kids{x:Syntax}(h:Rg x): ∀y∈x.kids,Rg y/\x.from_<=y.from_/\y.to<=x.to:=by
 cases h;rename_i h7 h8;exact fun y hy=>⟨h7 y hy,h8 y hy⟩
theorem Rg.avI{x:Syntax}(h:Rg x):x.kind=13->x.kids.length=2:=by cases h;assumption
theorem Rg.GJ{x:Syntax}(h:Rg x){f:Int}(hf:f<=x.from_):Rg (Src.GJ x f):=by
 cases h;rename_i h1 h2 h3 h4 h5 h6 h7 h8;have hf:f<=_:=hf;exact .mk h1 h2 h3 h4 h5 (gE hf h6) h7 fun y hy=>⟨gE hf (h8 y hy).1,(h8 y hy).2⟩
inductive RW:Int->Int->List Syntax->Prop
 |nil {a b:Int}:RW a b []
 |cons {a b:Int} {x:Syntax} {l:List Syntax}:a<=x.from_->Rg x->x.to<=b->RW x.to b l->RW a b (x::l)
theorem RW.left {a':Int}{l:List Syntax}(h:RW a b l)(ha:a'<=a):RW a' b l:=by
 cases h with
 |nil=>exact .nil
 |cons h1 h2 h3 h4=>exact .cons (gE ha h1) h2 h3 h4
theorem RW.right {b':Int}{l:List Syntax}(h:RW a b l)(hb:b<=b'):RW a b' l:=by
 induction h with
 |nil=>exact .nil
 |cons h1 h2 h3 _ ih=>exact .cons h1 h2 (gE h3 hb) (ih hb)
theorem RW.mem{l:List Syntax}(h:RW a b l): ∀x∈l,Rg x/\a<=x.from_/\x.to<=b:=by
 induction h with
 |nil=>intro x hx;cases hx
 |cons h1 h2 h3 _ ih=>
  intro y hy;rcases List.mem_cons.1 hy with rfl|hy
  ·exact⟨h2,h1,h3⟩
  ·obtain⟨k1,k2,k3⟩:=ih y hy;have:=h2.le;exact⟨k1,by omega,k3⟩
theorem RW.snoc {c:Int}{l:List Syntax}{y:Syntax}(h:RW a b l)(hy:Rg y)(h1:a<=y.from_)(h2:b<=y.from_)(h3:y.to<=c):RW a c (l++[y]):=by
 induction h with
 |nil=>exact .cons h1 hy h3 .nil
 |cons k1 k2 k3 _ ih=>exact .cons k1 k2 (by have:=hy.le;omega) (ih (by omega) h2)
theorem Rg.arC{s:Str}{n:Int}{l:List Syntax}{f t:Int}(hk:k≠13)(h:RW a b l)(hl:l.length<=1000000)(h6:f<=t)(ha:f<=a)(hb:b<=t)(h1:ns.length<=1000000)(h2:ls.length<=1000000)(h3: ∀l∈ls,LSm l):Rg (.mk k s n ns ls l f t):=
 .mk h1 h2 h3 hl (fun e=>absurd e hk) h6 (fun x hx=>(h.mem x hx).1) fun x hx=>by have:=h.mem x hx;omega
theorem RW.pairs: ∀(l:List Syntax){a:Int}{x:Syntax},RW a b (x::l)->Rg (Src.pairs b l x)/\(Src.pairs b l x).from_=x.from_/\(Src.pairs b l x).to<=b
 |[],a,x,.cons _ h2 h3 _=>⟨h2,rfl,h3⟩
 |y::l,a,x,.cons h1 h2 h3 h4=>by
  obtain⟨k1,k2,k3⟩:=RW.pairs l h4;have:=h2.le;cases h4 with
  |cons q1 _ _ _=>exact⟨.two h2 k1 (gb _) h3 (by omega) k3,rfl,gb _⟩
theorem aha{k n f:Int}{body:Syntax}(hb:Rg body)(hf:f<=body.from_): ∀l:List jO,(∀b∈l,Rg b.t/\f<=b.t.from_/\b.t.to<=body.to)->Rg (Src.Ku k n l body f)/\f<=(Src.Ku k n l body f).from_/\(Src.Ku k n l body f).to=body.to
 |[],_=>⟨hb,hf,rfl⟩
 |b::l,h=>by
  obtain⟨k1,k2,k3⟩:=aha (k:=k) (n:=n) hb hf l fun c hc=>h c (by simp [hc])
  obtain⟨q1,q2,q3⟩:=h b (by simp);exact⟨.two q1 k1 q2 (gE q3 (Int.le_of_eq k3.symm)) k2 (gb _),gb _,k3⟩
theorem aak(l:List Str)(t:Syntax):(Src.typed l t).length=l.length:=List.length_map _
theorem afF{l:List Str}{b:jO}(h:b∈Src.typed l t):b.t=t:=by
 obtain⟨s,_,rfl⟩:=List.mem_map.1 h;rfl
structure Pos(S:Src):Prop where
 ef: ∀i,i<S.len->S.E i<=S.F i
 fe: ∀i,i+1<S.len->S.F i<=S.E (i+1)
theorem Pos.ee{S:Src}(p:Pos S){i:Nat}(h:i<=j)(hj:j<S.len):S.E i<=S.E j:=by
 obtain⟨k,rfl⟩:=Nat.le.dest h;induction k with
 |zero=>exact gb _
 |succ k ih=>
  have h1:=ih (by omega) (by omega);have h2:=p.ef (i+k) (by omega);have h3:=p.fe (i+k) (by omega)
  grind
theorem Pos.fl{S:Src}(p:Pos S){i:Nat}(h:i<j)(hj:j<S.len):S.F i<=S.E j:=gE (p.fe i (by omega)) (p.ee h hj)
theorem Pos.ff{S:Src}(p:Pos S){i:Nat}(h:i<=j)(hj:j<S.len):S.F i<=S.F j:=by
 rcases Nat.lt_or_ge i j with h1|h1
 ·exact gE (p.fl h1 hj) (p.ef j hj)
 grind
def Ex(S:Src)(i:Nat)(x:Syntax)(j:Nat):Prop:=i<j/\j<S.len/\Rg x/\S.F i<=x.from_/\x.to<=S.E j
def HY(S:Src)(r:Nat->Rs Syntax):Prop:= ∀i,i<S.len->(r i).Ht S (Ex S i)
theorem Ex.back{S:Src}(p:Pos S){i i':Nat}{x:Syntax}(h:Ex S i x j)(hi:i'<=i):Ex S i' x j:=by
 obtain⟨h1,h2,h3,h4,h5⟩:=h;have:=p.ff hi (by omega);exact⟨by omega,h2,h3,by omega,h5⟩
theorem Ex.on{S:Src}(p:Pos S){i j':Nat}{x:Syntax}(h:Ex S i x j)(hj:j<=j')(hl:j'<S.len):Ex S i x j':=by
 obtain⟨h1,h2,h3,h4,h5⟩:=h;have:=p.ee hj hl;exact⟨by omega,hl,h3,h4,by omega⟩
def adv(S:Src):Prop:= ∀(l:List Syntax)(a b:Int),l≠[]->RW a b l->(S.np l).2.2=0->Rg (S.np l).1/\a<=(S.np l).1.from_/\(S.np l).1.to<=b
namespace XL
variable {S:Src} (h:XL S) (p:Pos S) {ex ta:Nat->Rs Syntax}
include h p
theorem alts(w4:HY S ta){o:Nat}: ∀(m:Nat)(x:Syntax)(i:Nat),Ex S o x i->(S.alts ta m x i).Ht S (Ex S o)
 |0,x,i,hx=> .pO (fun hc=>by obtain⟨e,hl⟩:=h.HX hx.2.1 hc;rw[e];exact .er hl) fun _=>hx
 |m+1,x,i,hx=>by
  obtain⟨h1,h2,h3,h4,h5⟩:=hx;unfold Src.alts;refine .pO (fun hc=> ?_) fun _=>⟨h1,h2,h3,h4,h5⟩
  obtain⟨e,hl⟩:=h.HX h2 hc;rw[e];refine(w4 _ hl).bind fun y j ⟨k1,k2,k3,k4,k5⟩=>alts w4 m _ j ?_
  have a1:=p.fl (gH i) hl;have a2:=p.ef i h2;have a3:=p.ff (show i<=i+1 by omega) hl;have a4:=k3.le;have a5:=h3.le;exact⟨by omega,k2,.two h3 k3 (gb _) (by omega) (by omega) (gb _),h4,k5⟩
theorem alt(w4:HY S ta):HY S (S.alt ta):=fun i hi=>(w4 i hi).bind fun x j hx=>h.alts p w4 199 x j hx
theorem Jo(w4:HY S ta){o:Nat}: ∀(m:Nat)(out:List Syntax)(i:Nat),o<=i->i<S.len->RW (S.F o) (S.E i) out->out.length+m=200->(S.Jo ta m out i).Ht S fun l j=>i<=j/\j<S.len/\RW (S.F o) (S.E j) l/\l.length<=200
 |0,out,i,ho,hi,hc,hm=> .pO (fun _=>⟨gf _,hi,hc,by omega⟩) fun _=> .er hi
 |m+1,out,i,ho,hi,hc,hm=>by
  unfold Src.Jo;refine .pO (fun _=>⟨gf _,hi,hc,by omega⟩) fun _=>(h.alt p w4 i hi).bind fun x j ⟨k1,k2,k3,k4,k5⟩=> ?_
  have a1:=p.ff ho hi;have a2:=p.ef i hi;have hs:=hc.snoc k3 (by omega) (by omega) k5;refine .pO (fun hc=> ?_) fun _=>⟨by omega,k2,hs,by grind⟩
  obtain⟨e,hl⟩:=h.HX k2 hc;rw[e];exact(Jo w4 m _ _ (by omega) hl (hs.right (p.ee (by omega) hl)) (by grind)).imp fun l j ⟨q1,q2,q3,q4⟩=>⟨by omega,q2,q3,q4⟩
theorem block(w4:HY S ta){i:Nat}(hi:i<S.len):(S.block ta i).Ht S fun l j=>i<j/\j<S.len/\RW (S.F i) (S.E j) l/\l.length<=200:=by
 unfold Src.block;refine(h.take hi _).bind fun _ k ⟨e,hk⟩=> ?_
 subst e;refine(h.Jo p w4 200 [] (o:=i) _ (gS i) hk .nil rfl).bind fun l j ⟨q1,q2,q3,q4⟩=> ?_
 exact(h.take q2 _).bind fun _ r ⟨e,hr⟩=>⟨by omega,hr,q3.right (p.ee (by omega) hr),q4⟩
theorem fill(hl:S.len<=100000)(w4:HY S ta){i:Nat}(hi:i<S.len):(S.fill ta i).Ht S fun x j=>i<j/\j<S.len/\x.from_=S.F i/\Rg (Src.anA x (S.E j)):=by
 have z: ∀{j:Nat},i<j->j<S.len->S.F i<=S.E j:=fun a b=>p.fl a b
 have lev: ∀{j:Nat}(s:Str)(n:Int),i<j->j<S.len->((S.levels j).bind fun l k=>Rs.ok (Syntax.mk 0 s n [] l [] (S.F i) 0) k).Ht S fun x j=>i<j/\j<S.len/\x.from_=S.F i/\Rg (Src.anA x (S.E j)):=fun s n a b=>
  (h.levels hl b).bind fun l k ⟨q1,q2,q3,q4⟩=>by
    have:Rg (.mk 0 s n [] l [] (S.F i) (S.E k)):= .leaf (by decide) (z (by omega) q2) (gi _) (by omega) q4;exact⟨by omega,q2,rfl,this⟩
 have fix: ∀{s:Str}{n k:Int},k≠13->S.nx i=i+1->i+1<S.len->(Rs.ok (Syntax.mk k s n [] [] [] (S.F i) 0) (S.nx i)).Ht S fun x j=>i<j/\j<S.len/\x.from_=S.F i/\Rg (Src.anA x (S.E j)):=fun a e b=>by
  rw[e];exact⟨by omega,b,rfl,.adu a (z (by omega) b)⟩
 unfold Src.fill;refine .pO (fun hc=> ?_) fun _=> .pO (fun hc=> ?_) fun _=> .pO (fun hc=> ?_) fun _=> .pO (fun hc=> ?_) fun _=> .pO (fun hc=> ?_) fun _=> .pO (fun hc=> ?_) fun _=> .pO (fun hc=> ?_) fun _=> .pO (fun hc=> ?_) fun _=> .er hi
 ·obtain⟨e,hj⟩:=h.nx hi (by rw[jB.1 hc];decide);rw[e];exact lev _ _ (by omega) hj
 ·obtain⟨e,hj⟩:=h.HX hi hc;rw[e];refine(h.name hj).bind fun s k ⟨e,hk⟩=> ?_
  exact lev _ _ (by omega) hk
 ·obtain⟨e,hj⟩:=h.HX hi hc;exact fix (by decide) e hj
 ·exact(h.number hi).bind fun n j ⟨_,e,hj⟩=>⟨by omega,hj,rfl,.adu (show(12:Int)≠13 by decide) (z (by omega) hj)⟩
 ·obtain⟨e,hj⟩:=h.amn hi hc;exact fix (by decide) e hj
 ·obtain⟨e,hj⟩:=h.amn hi hc;rw[e];exact(h.one hl hj).bind fun l k ⟨q1,q2,q3⟩=>⟨by omega,q2,rfl,.leaf (show(11:Int)≠13 by decide) (z (by omega) q2) (gi _) (by decide:1<=1000000) fun x hx=>by rw[gA.1 hx];exact q3⟩
 ·obtain⟨e,hj⟩:=h.HX hi hc;exact fix (by decide) e hj
 ·obtain⟨e,hj⟩:=h.amn hi hc;rw[e];refine(h.block p w4 hj).bind fun l k ⟨q1,q2,q3,q4⟩=>⟨by omega,q2,rfl,?_⟩
  have:Rg (.mk 14 [] 0 [] [] l (S.F i) (S.E k)):= .arC (by decide) q3 (by omega) (z (by omega) q2) (p.ff (show i<=i+1 by omega) hj) (gb _) (gi _) (gi _) fun l hl=>by cases hl
  exact this
theorem Wv(hex:HY S ex){a:Int}: ∀(m:Nat)(out:List Syntax)(i:Nat),i<S.len->a<=S.E i->RW a (S.E i) out->(S.Wv ex m out i).Ht S fun l j=>i<=j/\j<S.len/\RW a (S.E j) l
 |0,out,i,hi,ha,hc=> .pO (fun hs=>by obtain⟨e,hl⟩:=h.HX hi hs;rw[e];exact .er hl) fun _=>⟨gf _,hi,hc⟩
 |m+1,out,i,hi,ha,hc=>by
  unfold Src.Wv;refine .pO (fun hs=> ?_) fun _=>⟨gf _,hi,hc⟩
  obtain⟨e,hl⟩:=h.HX hi hs;rw[e];refine(hex _ hl).bind fun x j ⟨k1,k2,k3,k4,k5⟩=> ?_
  have a1:=p.ef _ hl;have a2:=p.ee (show i<=i+1 by omega) hl;have a3:=p.ee (show i<=j by omega) k2;exact(Wv hex m _ j k2 (by omega) (hc.snoc k3 (by omega) (by omega) k5)).imp fun l j' ⟨q1,q2,q3⟩=>⟨by omega,q2,q3⟩
theorem DH(hex:HY S ex){o i:Nat}(ho:o<i)(hi:i<S.len):(S.DH ex o i).Ht S (Ex S o):=by
 unfold Src.DH;refine(hex i hi).bind fun x j hx=> ?_
 have hb:=hx.back p (gW ho);obtain⟨h1,h2,h3,h4,h5⟩:=hx;have b4:=hb.2.2.2.1;refine .pO (fun hc=> ?_) fun _=> .pO (fun hc=> ?_) fun _=> .pO (fun hc=> ?_) fun _=> .er h2
 ·obtain⟨e,hl⟩:=h.HX h2 hc;rw[e];exact hb.on p (gS j) hl
 ·obtain⟨e,hl⟩:=h.HX h2 hc;rw[e];refine(hex _ hl).bind fun t k ⟨k1,k2,k3,k4,k5⟩=>(h.take k2 _).bind fun _ q ⟨e,hq⟩=> ?_
  have a1:=p.ee (show j<=q by omega) hq;have a2:=p.ee (show k<=q by omega) hq;have a3:=p.ff (show o<=j+1 by omega) hl;exact⟨by omega,hq,.two h3 k3 b4 (by omega) (by omega) (by omega),gb _,gb _⟩
 ·refine(h.Wv p hex 199 [] j h2 (a:=x.to) h5 .nil).bind fun l k ⟨k1,k2,k3⟩=>(h.take k2 _).bind fun _ q ⟨e,hq⟩=> ?_
  have a1:=p.ee (show j<=q by omega) hq;have a2:=p.ee (show k<=q by omega) hq;obtain⟨q1,q2,q3⟩:=RW.pairs (b:=S.E q) l (a:=x.from_) (x:=x) (.cons (gb _) h3 (by omega) (k3.right a2));exact⟨by omega,hq,q1.GJ (by rw[q2];exact b4),gb _,q3⟩
theorem basic(hl:S.len<=100000)(hex:HY S ex)(w4:HY S ta):HY S (S.basic ex ta):=by
 intro i hi;unfold Src.basic;refine .pO (fun hc=> ?_) fun _=> ?_
 ·obtain⟨e,hj⟩:=h.HX hi hc;rw[e];exact h.DH p hex (gH i) hj
 ·refine(h.fill p hl w4 hi).bind fun x j ⟨k1,k2,k3,k4⟩=>⟨k1,k2,k4,?_,gb _⟩
  show S.F i<=x.from_;rw[k3];exact gb _
theorem Do{o:Nat}: ∀(m:Nat)(x:Syntax)(i:Nat),Ex S o x i->(S.Do m x i).Ht S (Ex S o)
 |0,x,i,hx=> .pO (fun _=> .er hx.2.1) fun _=>hx
 |m+1,x,i,hx=>by
  obtain⟨h1,h2,h3,h4,h5⟩:=hx;unfold Src.Do;refine .pO (fun hc=> ?_) fun _=>⟨h1,h2,h3,h4,h5⟩
  have⟨e,hl⟩:S.nx i=i+1/\i+1<S.len:=by
   rw[hJ] at hc;rcases hc with hc|hc<;>exact h.HX h2 hc
  rw[e];refine Do m _ _ ⟨by omega,hl,.one ?_ h3 (gb _) (gE h5 (p.ee (gS i) hl)),h4,gb _⟩
  grind
theorem Q1(hl:S.len<=100000)(hex:HY S ex)(w4:HY S ta):HY S (S.Q1 ex ta):=fun i hi=>(h.basic p hl hex w4 i hi).bind fun x j hx=>h.Do p 200 x j hx
theorem NY(ha:HY S (S.Q1 ex ta)){o:Nat}: ∀(m:Nat)(x:Syntax)(i:Nat),Ex S o x i->(S.NY ex ta m x i).Ht S (Ex S o)
 |0,x,i,hx=> .pO (fun _=> .er hx.2.1) fun _=>hx
 |m+1,x,i,hx=>by
  obtain⟨h1,h2,h3,h4,h5⟩:=hx;unfold Src.NY;refine .pO (fun hc=> ?_) fun _=>⟨h1,h2,h3,h4,h5⟩
  refine(ha i h2).bind fun y j ⟨k1,k2,k3,k4,k5⟩=>NY ha m _ j ?_
  have a2:=p.ef i h2;have a4:=k3.le;have a5:=h3.le;exact⟨by omega,k2,.two h3 k3 (gb _) (by omega) (by omega) (gb _),h4,k5⟩
theorem app(hl:S.len<=100000)(hex:HY S ex)(w4:HY S ta):HY S (S.app ex ta):=fun i hi=>(h.Q1 p hl hex w4 i hi).bind fun x j hx=>h.NY p (h.Q1 p hl hex w4) 199 x j hx
theorem item(hl:S.len<=100000)(hex:HY S ex)(w4:HY S ta):HY S (S.item ex ta):=by
 intro i hi;unfold Src.item;refine .pO (fun hc=> ?_) fun _=>h.app p hl hex w4 i hi
 unfold Src.BN at hc;rw[gp] at hc;obtain⟨e,hj⟩:=h.nx hi (by rw[jB.1 hc.1];decide);rw[e];exact⟨by omega,hj,.adu (by decide) (p.fl (gH i) hj),gb _,gb _⟩
theorem tU(hit:HY S (S.item ex ta)){o:Nat}: ∀(m:Nat)(out:List Syntax)(i:Nat),o<=i->i<S.len->(out≠[]->o<i)->RW (S.F o) (S.E i) out->out.length+m=200->(S.tU ex ta m out i).Ht S fun l j=>i<=j/\j<S.len/\(l≠[]->o<j)/\RW (S.F o) (S.E j) l/\l.length<=200
 |0,out,i,ho,hi,hn,hc,hm=> .pO (fun _=> .er hi) fun _=>⟨gf _,hi,hn,hc,by omega⟩
 |m+1,out,i,ho,hi,hn,hc,hm=>by
  unfold Src.tU;refine .pO (fun _=>(hit i hi).bind fun x j ⟨k1,k2,k3,k4,k5⟩=> ?_) fun _=>⟨gf _,hi,hn,hc,by omega⟩
  have a1:=p.ff ho hi;have a2:=p.ef i hi;exact(tU hit m _ j (by omega) k2 (fun _=>by omega) (hc.snoc k3 (by omega) (by omega) k5) (by grind)).imp fun l j' ⟨q1,q2,q3,q4,q5⟩=>⟨by omega,q2,q3,q4,q5⟩
theorem items(hl:S.len<=100000)(hex:HY S ex)(w4:HY S ta){i:Nat}(hi:i<S.len):(S.tU ex ta 200 [] i).Ht S fun l j=>i<=j/\j<S.len/\(l≠[]->i<j)/\RW (S.F i) (S.E j) l/\l.length<=200:=
 h.tU p (h.item p hl hex w4) 200 [] i (gf _) hi (fun e=>absurd rfl e) .nil rfl
omit h in
theorem SA(q:adv S){i:Nat}{l:List Syntax}(hj:j<S.len)(hn:l≠[]->i<j)(hc:RW (S.F i) (S.E j) l):(S.SA l j).Ht S (Ex S i):=by
 unfold Src.SA
 match l with
 |[]=>exact .er hj
 |x::r=>
  have hij:=hn (by simp);refine .pO (fun _=> ?_) fun _=> .pO (fun h0=> ?_) fun hz=> ?_
  ·obtain⟨k1,k2,k3⟩:=hc.mem x (by simp);exact⟨hij,hj,k1,k2,k3⟩
  ·obtain⟨k1,k2,k3⟩:=q _ _ _ (by simp) hc (jB.1 h0);exact⟨hij,hj,k1,k2,k3⟩
  ·have he:=jC.1 hz;split
   ·rename_i y hy;obtain⟨k1,k2,k3⟩:=hc.mem y (List.mem_of_getElem? hy);exact⟨he,i,j,by omega,hj,k2,by have:=k1.le;have:=p.ef j hj;omega⟩
   ·exact .er hj he
theorem op(q:adv S)(hl:S.len<=100000)(hex:HY S ex)(w4:HY S ta):HY S (S.op ex ta):=fun i hi=>
 (h.items p hl hex w4 hi).bind fun l j ⟨k1,k2,k3,k4,k5⟩=>SA p q k2 k3 k4
end XL
def Bs(S:Src)(i:Nat)(l:List jO)(j:Nat):Prop:=i<j/\j<S.len/\ ∀b∈l,Rg b.t/\S.F i<=b.t.from_/\b.t.to<=S.E j
namespace XL
variable {S:Src} (h:XL S) (p:Pos S) {ex ta:Nat->Rs Syntax}
include h p
theorem nested {n:Int}{o i:Nat}{l:List jO}{x:Syntax}(hl:Bs S o l i)(hx:Ex S i x j):Ex S o (Src.Ku k n l x (S.F o)) j:=by
 obtain⟨h1,h2,h3⟩:=hl;obtain⟨k1,k2,k3,k4,k5⟩:=hx;have a1:=p.ef i h2;have a2:=p.ff (gW h1) h2;have a3:=k3.le
 obtain⟨q1,q2,q3⟩:=aha (k:=k) (n:=n) k3 (f:=S.F o) (by omega) l fun b hb=>by
  grind
 exact⟨by omega,k2,q1,q2,by omega⟩
omit h in
theorem auG {o i:Nat}{l:List jO}(hl:Bs S o l i)(hij:i<=j)(hj:j<S.len):Bs S o l j:=by
 obtain⟨h1,h2,h3⟩:=hl;have:=p.ee hij hj;exact⟨by omega,hj,fun b hb=>by obtain⟨r1,r2,r3⟩:=h3 b hb;exact⟨r1,r2,by omega⟩⟩
theorem binder(hex:HY S ex){op sh:Str}{i:Nat}(hi:i<S.len):(S.binder ex op sh i).Ht S fun l j=>1<=l.length/\l.length<=200/\Bs S i l j:=by
 unfold Src.binder;refine(h.take hi _).bind fun _ k ⟨e,hk⟩=> ?_
 refine Rs.Ht.bind (P:=fun l j=>(1<=l.length/\l.length<=200)/\i<j/\j<S.len) ?_ fun l j ⟨l1,j1,j2⟩=>(h.take j2 _).bind fun _ a ⟨e1,ha⟩=>(hex a ha).bind fun t b ⟨k1,k2,k3,k4,k5⟩=>(h.take k2 _).bind fun _ c ⟨e2,hc⟩=> ?_
 ·refine .pO (fun _=> ?_) fun _=> ?_
  ·exact(h.var hk).bind fun s j ⟨e,hj⟩=>⟨⟨gf 1,(by decide:1<=200)⟩,by omega,hj⟩
  ·exact(h.vars hk).imp fun l j ⟨q1,q2,q3,q4⟩=>⟨⟨q1,q2⟩,by omega,q4⟩
 ·refine⟨by rw[aak];exact l1.1,by rw[aak];exact l1.2,by omega,hc,fun b' hb=> ?_⟩;rw[afF hb];have a1:=p.ff (show i<=a by omega) ha;have a2:=p.ee (show b<=c by omega) hc;exact⟨k3,by omega,by omega⟩
theorem product(hex:HY S ex){n:Int}{o i:Nat}{l:List jO}{sep:Str}(hl:Bs S o l i):(S.product ex k n o l sep i).Ht S (Ex S o):=by
 unfold Src.product;refine(h.take hl.2.1 _).bind fun _ a ⟨e,ha⟩=>(hex a ha).bind fun x j hx=> ?_
 exact h.nested p (auG p hl (by omega) ha) hx
theorem L8(hex:HY S ex){o:Nat}: ∀(m:Nat)(out:List jO)(i:Nat),Bs S o out i->out.length<=200*(200-m)->m<=200->(S.L8 ex m out i).Ht S fun l j=>i<=j/\Bs S o l j/\l.length<=40000
 |0,out,i,hb,ho,_=> .pO (fun _=>⟨gf _,hb,by omega⟩) fun _=> .er hb.2.1
 |m+1,out,i,hb,ho,hm=>by
  unfold Src.L8;refine .pO (fun _=>⟨gf _,hb,by omega⟩) fun _=> .pO (fun _=> ?_) fun _=> ?_
  ·refine(h.binder p hex hb.2.1).bind fun l j ⟨_,l1,j1,j2,j3⟩=> ?_
   obtain⟨b1,b2,b3⟩:=auG p hb (gW j1) j2;refine(L8 hex m _ j ⟨b1,b2,fun b hb'=> ?_⟩ (by rw[gT];omega) (by omega)).imp fun l j' ⟨q1,q2⟩=>⟨by omega,q2⟩
   rcases gB.1 hb' with hb'|hb'
   ·exact b3 b hb'
   ·obtain⟨r1,r2,r3⟩:=j3 b hb';have:=p.ff (gW hb.1) hb.2.1;exact⟨r1,by omega,r3⟩
  ·refine(h.var hb.2.1).bind fun s j ⟨e,hj⟩=> ?_
   obtain⟨b1,b2,b3⟩:=auG p hb (show i<=j by omega) hj;refine(L8 hex m _ j ⟨b1,b2,fun b hb'=> ?_⟩ (by grind) (by omega)).imp fun l j' ⟨q1,q2⟩=>⟨by omega,q2⟩
   rcases gB.1 hb' with hb'|hb'
   ·exact b3 b hb'
   ·rw[gA.1 hb'];exact⟨.adu (by decide) (gb _),p.fl b1 b2,gb _⟩
theorem aAl(hex:HY S ex){i:Nat}(hi:i<S.len)(hk:S.nx i=i+1/\i+1<S.len):(S.L8 ex 200 [] (i+1)).Ht S fun l j=>i<j/\Bs S i l j/\l.length<=40000:=
 (h.L8 p hex (o:=i) 200 [] (i+1) ⟨gH i,hk.2,fun b hb=>by cases hb⟩ (gi _) (gf _)).imp fun l j ⟨q1,q2⟩=>⟨by omega,q2⟩
theorem abJ(hex:HY S ex){i:Nat}(hi:i<S.len)(hk:S.nx i=i+1/\i+1<S.len):(S.abJ ex i).Ht S (Ex S i):=by
 unfold Src.abJ;rw[hk.1];refine(h.aAl p hex hi hk).bind fun l j ⟨_,hb,_⟩=>(h.take hb.2.1 _).bind fun _ a ⟨e,ha⟩=>(hex a ha).bind fun x k hx=> ?_
 exact h.nested p (auG p hb (by omega) ha) hx
theorem aai(hex:HY S ex){i:Nat}(hi:i<S.len)(hk:S.nx i=i+1/\i+1<S.len):(S.aai ex i).Ht S (Ex S i):=by
 unfold Src.aai;rw[hk.1];refine(h.var hk.2).bind fun s j ⟨e,hj⟩=> ?_
 refine Rs.Ht.bind (P:=Ex S i) ?_ fun t k ⟨t1,t2,t3,t4,t5⟩=>(h.take t2 _).bind fun _ a ⟨e1,ha⟩=>(hex a ha).bind fun v b ⟨v1,v2,v3,v4,v5⟩=>(h.take v2 _).bind fun _ c ⟨e2,hc⟩=>(hex c hc).bind fun y r ⟨y1,y2,y3,y4,y5⟩=> ?_
 ·refine .pO (fun hs=> ?_) fun _=> ?_
  ·obtain⟨e2,hl⟩:=h.HX hj hs;rw[e2];exact(hex _ hl).imp fun t k ht=>ht.back p (by omega)
  ·exact⟨by omega,hj,.adu (by decide) (gb _),p.fl (by omega) hj,gb _⟩
 ·have a1:=p.ee (show k<=c by omega) hc;have a2:=p.ee (show b<=c by omega) hc;have a3:=p.ef c hc;have a4:=y3.le;have a5:=p.ff (show i<=c by omega) hc;have a6:=p.ff (show i<=a by omega) ha;have a7:=t3.le;refine⟨by omega,y2,.mk (gi _) (gi _) (fun l hl=>by cases hl) (by decide:3<=1000000) (fun e=>by cases e) (by omega) (fun z hz=> ?_) (fun z hz=> ?_),gb _,y5⟩<;>
  ·grind
def arD(S:Src)(x:Syntax)(i:Nat):List jO:=bif x.kind==13&&(x.from_==S.F i&& !(S.written i).isEmpty) then Src.typed (S.written i) (x.kids.getD 1 Pl) else [{name:=[],t:=x}]
omit h p in
theorem aw8{x:Syntax}(hx:Rg x)(i:Nat): ∀b∈arD S x i,Rg b.t/\x.from_<=b.t.from_/\b.t.to<=x.to:=by
 unfold arD;cases hc:x.kind==13&&(x.from_==S.F i&& !(S.written i).isEmpty) with
 |false=>intro b hb;rw[gA.1 hb];exact⟨hx,gb _,gb _⟩
 |true=>
  rw[gp,jB] at hc;have h2:=hx.avI hc.1;intro b hb;rw[afF hb];exact hx.kids _ (by rw[List.getD_eq_getElem?_getD,gL (by omega)];exact gx _)
theorem z7(q:adv S)(hl:S.len<=100000)(hex:HY S ex)(w4:HY S ta):HY S (S.z7 ex ta):=by
 intro i hi;unfold Src.z7;refine(h.op p q hl hex w4 i hi).bind fun x j hx=> .pO (fun hs=> ?_) fun _=>hx
 obtain⟨h1,h2,h3,h4,h5⟩:=hx;obtain⟨e,hj⟩:=h.HX h2 hs;rw[e];refine(hex _ hj).bind fun b k ⟨k1,k2,k3,k4,k5⟩=> ?_
 have a1:=p.ee (show j<=j+1 by omega) hj;have a2:=p.ef _ hj;have a3:=k3.le;have a4:=h3.le
 obtain⟨q1,q2,q3⟩:=aha (k:=4) (n:=0) k3 (f:=x.from_) (by omega) (arD S x i) fun b hb=>by
  obtain⟨r1,r2,r3⟩:=aw8 h3 i b hb;exact⟨r1,r2,by omega⟩
 exact⟨by omega,k2,q1,by unfold arD at q2;omega,by unfold arD at q3;omega⟩
theorem Fx(q:adv S)(hl:S.len<=100000)(hex:HY S ex)(w4:HY S ta):HY S (S.Fx ex ta):=by
 intro i hi;unfold Src.Fx
 have prod: ∀{o:Nat}{op sh sep:Str}{k n:Int},i<=o->o<S.len->((S.binder ex op sh o).bind fun l j=>S.product ex k n i l sep j).Ht S (Ex S i):=fun a b=>
  (h.binder p hex b).bind fun l j ⟨_,_,j1,j2,j3⟩=>h.product p hex ⟨by omega,j2,fun b' hb=>by
    obtain⟨r1,r2,r3⟩:=j3 b' hb;have:=p.ff a b;exact⟨r1,by omega,r3⟩⟩
 refine .pO (fun hc=>h.abJ p hex hi (h.amn hi hc)) fun _=> .pO (fun hc=>h.aai p hex hi (h.amn hi hc)) fun _=> .pO (fun hc=> ?_) fun _=> .pO (fun hc=>prod (gf _) hi) fun _=> .pO (fun hc=>prod (gf _) hi) fun _=>h.z7 p q hl hex w4 i hi
 obtain⟨e,hj⟩:=h.amn hi hc
 simp_all
theorem Kb: ∀(m:Nat)(out:List Str)(i:Nat),i<S.len->out.length+m=200->(S.Kb m out i).Ht S fun l j=>i<=j/\j<S.len/\l.length<=200
 |0,out,i,hi,hm=> .pO (fun _=> .er hi) fun _=>⟨gf _,hi,by omega⟩
 |m+1,out,i,hi,hm=>by
  unfold Src.Kb;refine .pO (fun hc=> ?_) fun _=>⟨gf _,hi,by omega⟩
  obtain⟨e,hl⟩:=h.nx hi (by rw[jB.1 hc];decide);rw[e];exact(Kb m _ _ hl (by grind)).imp fun l j ⟨q1,q2,q3⟩=>⟨by omega,q2,q3⟩
def Kn(S:Src)(i:Nat)(r:List Str×List Syntax)(j:Nat):Prop:=i<j/\j<S.len/\RW (S.F i) (S.E j) r.2/\r.2.length<=200/\r.1.length<=200
omit h in
theorem kn1 {i a:Nat}{x:Syntax}(ha:i<=a)(h:Ex S a x j):Kn S i ([],[x]) j:=by
 obtain⟨k1,k2,k3,k4,k5⟩:=h;have:=p.ff ha (by omega);exact⟨by omega,k2,.cons (by omega) k3 k5 .nil,(by decide:1<=200),gi _⟩
theorem known(hex:HY S ex)(w4:HY S ta){w:Str}{i:Nat}(hi:i<S.len)(hk:(S.K i).1=0):(S.known ex ta w i).Ht S (Kn S i):=by
 obtain⟨e,hj⟩:=h.nx hi (by rw[hk];decide);have nm: ∀{l:List Str}{j:Nat},i<j->j<S.len->l.length<=200->Kn S i (l,[]) j:=fun a b c=>⟨a,b,.nil,gi _,c⟩
 unfold Src.known;rw[e];refine .pO (fun _=> ?_) fun _=> .pO (fun _=> ?_) fun _=> .pO (fun _=> ?_) fun _=> .pO (fun _=> ?_) fun _=> .pO (fun _=> ?_) fun _=> .pO (fun _=> ?_) fun _=> .pO (fun _=> ?_) fun _=> .pO (fun _=> ?_) fun _=> .er hi
 ·exact(h.block p w4 hj).bind fun l j ⟨q1,q2,q3,q4⟩=>⟨by omega,q2,q3.left (p.ff (show i<=i+1 by omega) hj),q4,gi _⟩
 ·exact(hex _ hj).bind fun x j hx=>kn1 p (gS i) hx
 ·exact nm (gH i) hj (by decide)
 ·exact(h.var hj).bind fun s j ⟨e,hj⟩=>nm (by omega) hj (by simp)
 ·exact(h.vars hj).bind fun l j ⟨q1,q2,q3,q4⟩=>nm (by omega) q4 q2
 ·exact(h.Jn hj).bind fun s j ⟨e,hj⟩=>nm (by omega) hj (by simp)
 ·exact(h.name hj).bind fun s j ⟨e,hj⟩=>(h.Kb p 199 [s] j hj rfl).bind fun l k ⟨q1,q2,q3⟩=>nm (by omega) q2 q3
 ·exact(w4 _ hj).bind fun x j hx=>kn1 p (gS i) hx
theorem RV(hex:HY S ex)(w4:HY S ta):HY S (S.RV ex ta):=by
 intro i hi;unfold Src.RV;refine Rs.Ht.bind (P:=Kn S i) ?_ fun r j ⟨j1,j2,j3,j4,j5⟩=> ?_
 ·refine .pO (fun _=> ?_) fun _=> .pO (fun hc=>h.known p hex w4 hi (jB.1 hc)) fun _=> .er hi
  exact(h.block p w4 hi).bind fun l j ⟨q1,q2,q3,q4⟩=>⟨q1,q2,q3,q4,gi _⟩
 ·exact⟨j1,j2,.arC (by decide) j3 (by omega) (p.fl j1 j2) (gb _) (gb _) (by omega) (gi _) fun l hl=>(by cases hl),gb _,gb _⟩
theorem both(q:adv S)(hl:S.len<=100000): ∀d:Nat,HY S (S.Bd d)/\HY S (S.adr d)
 |0=>⟨fun _ hi=> .er hi,fun _ hi=> .er hi⟩
 |d+1=>⟨h.Fx p q hl (both q hl d).1 (both q hl d).2,h.RV p (both q hl d).1 (both q hl d).2⟩
theorem whole(q:adv S)(hl:S.len<=100000)(h0:0<S.len):S.whole.Ht S fun x j=>Rg x/\S.F 0<=x.from_/\x.to<=S.E j/\j<S.len:=by
 unfold Src.whole;exact((h.both p q hl 200).1 0 h0).bind fun x j ⟨k1,k2,k3,k4,k5⟩=> .pO (fun _=>⟨k3,k4,k5,k2⟩) fun _=> .er k2
end XL
section
variable {Z:Cx}
theorem RP.step2{d:Int}{R:Type}{A:Nat->Nat->(((jG×Unit)×Unit)×(β×Unit))->Option R}{B:Nat->Nat->(((jG×Unit)×Unit)×(jT×Unit))->Option R}{Q:Rs α->R->Prop}
 (h:li F (RP Z d rs)) (hok: ∀x j,rs= .ok x j->j<Z.T.length->kW (fun n m=>A n m (((Z.st j d,()),()),x,())) (Q (f x j))) (hpn: ∀p e a,rs= .er e a->kW (fun n m=>B n m (((p,()),()),{e:=e,at_:=a},())) (Q (.er e a)):=by intros;exact kW.pure ⟨_,rfl⟩):
 kW (fun n m=>(F n).bind fun x=>BQ x (A n m) (B n m)) (Q (rs.bind f)):=by
 refine kW.lH h fun r hr=> ?_
 cases rs with
 |ok x j=>obtain⟨hj,rfl⟩:=hr;exact hok x j rfl hj
 |er e a=>obtain⟨p,rfl⟩:=hr;exact hpn p e a rfl
theorem adw(hc: ∀s,Ev (fun n=>mj n Z.sy s) (Z.sy.contains s)){i:Nat}{d:Int}(hi:i<Z.T.length):Ev (fun n=>sR n (Z.st i d)) (Z.S.BN i):=by
 refine Ev.fn (fun n=>by simp only[sR,kq,xU,mB];exact rfl) ?_;refine Ev.bind (BA hi) ?_;unfold Src.BN;rw[EP hi];cases Z.T[i].kind==2 with
 |false=>exact Ev.pure
 |true=>
  simp only[ju,gh];cases Z.T[i].text==[95] with
  |true=>exact Ev.pure
  |false=>
   simp only[jv,gv,gh];exact Ev.bind (hc _) Ev.pure
def Nx(Z:Cx)(d:Int)(F:Nat->jG->Option (PR (((jG×Unit)×Unit)×(Syntax×Unit)) (((jG×Unit)×Unit)×(jT×Unit))))(r:Nat->Rs Syntax):Prop:=
 ∀i,i<Z.T.length->li (fun n=>F n (Z.st i d)) (RP Z d (r i))
variable {ta:Nat->Rs Syntax} {d:Int}
theorem ao3(h:qU Z)(w4:Nx Z d kK ta): ∀(m:Nat)(x:Syntax)(i:Nat),i<Z.T.length->m<=199->
 kW (fun n q=>pG (jJ n) n q ((200-m:Nat):Int) (Z.st i d) x) (RP Z d (Z.S.alts ta m x i)):=by
 intro m;induction m with
 |zero=>
  intro x i hi _;refine kW.lp (fun n m=>by simp only[yc,pF,jY,pu];exact rfl) ?_;refine Ev.BR (qf h hi [60,124,62]) ?_;unfold Src.alts;cases hs:Z.S.sym [60,124,62] i with
  |false=>exact kW.pure ⟨hi,rfl⟩
  |true=>
   simp only[ju];refine Ev.BR (xE h (qx hi) (k:=((200-0:Nat):Int)) (by omega)) ?_;exact kW.pure ⟨_,rfl⟩
 |succ m ih=>
  intro x i hi hm;refine kW.lp (fun n m=>by simp only[yc,pF,jY,pu];exact rfl) ?_;refine Ev.BR (qf h hi [60,124,62]) ?_;unfold Src.alts;cases hs:Z.S.sym [60,124,62] i with
  |false=>exact kW.pure ⟨hi,rfl⟩
  |true=>
   simp only[ju];refine Ev.BR (yF (qx hi) (k:=((200-(m+1):Nat):Int)) (by omega)) ?_;refine RP.step2 (w4 _ (qx hi)) (fun y j _ hj=> ?_)
   grind [wrap_small]
end
section
variable {Z:Cx}
variable {ta:Nat->Rs Syntax} {d:Int}
theorem auH(h:qU Z)(w4:Nx Z d kK ta):Nx Z d mm (Z.S.alt ta):=by
 intro i hi;refine li.fn (fun n=>by simp only[JM,rC,jY,pu];exact rfl) ?_;exact RP.step (w4 i hi) (fun x j _ hj=>li.AN (F:=fun n q=>pG (jJ n) n q 1 (Z.st j d) x) (ao3 h w4 199 x j hj (gf _)))
theorem ao4(h:qU Z)(w4:Nx Z d kK ta): ∀(m:Nat)(out:List Syntax)(i:Nat),i<Z.T.length->m+out.length=200->
 kW (fun n q=>rq (jJ n) n q (Z.st i d) out) (RP Z d (Z.S.Jo ta m out i)):=by
 intro m;induction m with
 |zero=>
  intro out i hi hm;refine kW.lp (fun n m=>by simp only[CA,rn,jY,pu];exact rfl) ?_;refine Ev.BR (DI hi [125]) ?_;unfold Src.Jo;cases hs:Z.S.sym [125] i with
  |true=>exact kW.pure ⟨hi,rfl⟩
  |false=>
   simp only[jv];refine Ev.BR (xE h hi (k:=(out.length:Int)) (by omega)) ?_;exact kW.pure ⟨_,rfl⟩
 |succ m ih=>
  intro out i hi hm;refine kW.lp (fun n m=>by simp only[CA,rn,jY,pu];exact rfl) ?_;refine Ev.BR (DI hi [125]) ?_;unfold Src.Jo;cases hs:Z.S.sym [125] i with
  |true=>exact kW.pure ⟨hi,rfl⟩
  |false=>
   simp only[jv];refine Ev.BR (yF hi (k:=(out.length:Int)) (by omega)) ?_;refine RP.step2 (auH h w4 i hi) (fun x j _ hj=> ?_);simp only[jw (show(out.length+1)*120<=17592186044416 by omega),ju];refine Ev.BR (qf h hj [59]) ?_;cases hq:Z.S.sym [59] j with
   |true=>grind [qx]
   |false=>exact kW.pure ⟨hj,rfl⟩
theorem ajP(h:qU Z)(w4:Nx Z d kK ta){i:Nat}(hi:i<Z.T.length):li (fun n=>ni n (Z.st i d)) (RP Z d (Z.S.ay2 ta i)):=by
 refine li.fn (fun n=>by simp only[Ph,uZ,jY,pu];exact rfl) ?_;exact li.AN (F:=fun n q=>rq (jJ n) n q (Z.st i d) []) (ao4 h w4 200 [] i hi rfl)
end
section
variable {Z:Cx}
variable {ta:Nat->Rs Syntax} {d:Int}
def RF(Z:Cx)(d:Int):Rs Syntax->PR (((jG×Unit)×((Syntax×Unit)×Unit))×Unit) (((jG×Unit)×((Syntax×Unit)×Unit))×(jT×Unit))->Prop
 | .ok x j,r=>j<Z.T.length/\r= .ok (((Z.st j d,()),(x,()),()),())
 | .er e a,r=> ∃p x,r= .pn (((p,()),(x,()),()),{e:=e,at_:=a},())
theorem afG(h:qU Z)(w4:Nx Z d kK ta){i:Nat}(hi:i<Z.T.length)(x:Syntax):
 li (fun n=>nZ n (Z.st i d) x) (RF Z d ((Z.S.block ta i).bind fun l j=> .ok (.mk x.kind x.text x.num x.names x.levels l x.from_ x.to) j)):=by
 refine li.fn (fun n=>by simp only[Su,wJ,jY,pu];exact rfl) ?_;unfold Src.block;rw[Rs.bind_assoc];refine RU.step (tK h hi [123]) (fun j _ hj=> ?_);rw[Rs.bind_assoc];refine RP.step (ajP h w4 hj) (fun l k _ hk=> ?_);rw[Rs.bind_assoc];exact RU.step (tK h hk [125]) (fun q _ hq=>li.pure ⟨hq,rfl⟩)
theorem arE (h:qU Z) (k:XL Z.S) (w4:Nx Z d kK ta) {i:Nat} (hi:i<Z.T.length):
 li (fun n=>pL n (Z.st i d) (.mk 0 [] 0 [] [] [] (Z.S.F i) 0)) (RF Z d (Z.S.fill ta i)):=by
 refine li.fn (fun n=>by simp only[U9,xC,jY,pu];exact rfl) ?_;refine Ev.to (BA hi) ?_;unfold Src.fill;rw[show(Z.S.K i).1=Z.T[i].kind by rw[EP hi]];cases h0:Z.T[i].kind==0 with
 |true=>
  simp only[ju];refine Ev.to (ug h hi) ?_;exact RP.step (adt h k (qx hi)) (fun l j _ hj=>li.pure ⟨hj,rfl⟩)
 |false=>
  simp only[jv];refine Ev.to (qf h hi [64]) ?_;cases h1:Z.S.sym [64] i with
  |true=>
   simp only[ju];refine RP.step (ajK h (qx hi)) (fun s j _ hj=> ?_);exact RP.step (adt h k hj) (fun l q _ hq=>li.pure ⟨hq,rfl⟩)
  |false=>
   simp only[jv];refine Ev.to (qf h hi [95]) ?_;cases h2:Z.S.sym [95] i with
   |true=>exact li.pure ⟨qx hi,rfl⟩
   |false=>
    simp only[jv];refine Ev.to (BA hi) ?_;cases h3:Z.T[i].kind==1 with
    |true=>
     simp only[ju];exact RP.step (abX h hi) (fun l q _ hq=>li.pure ⟨hq,rfl⟩)
    |false=>
     simp only[jv];refine Ev.to (Ze hi 3 [80,114,111,112]) ?_;unfold Src.key;cases h4:Z.S.is 3 [80,114,111,112] i with
     |true=>
      simp only[ju];refine Ev.to (ug h hi) ?_;exact li.pure ⟨qx hi,rfl⟩
     |false=>
      simp only[jv];refine Ev.to (Ze hi 3 [84,121,112,101]) ?_;cases h5:Z.S.is 3 [84,121,112,101] i with
      |true=>
       simp only[ju];refine Ev.to (ug h hi) ?_;exact RP.step (auE h k (qx hi)) (fun l q _ hq=>li.pure ⟨hq,rfl⟩)
      |false=>
       simp only[jv];refine Ev.to (qf h hi [40,41]) ?_;cases h6:Z.S.sym [40,41] i with
       |true=>exact li.pure ⟨qx hi,rfl⟩
       |false=>
        simp only[jv];refine Ev.to (Ze hi 3 [98,121]) ?_;cases h7:Z.S.is 3 [98,121] i with
        |true=>
         simp only[ju];refine Ev.to (ug h hi) ?_;unfold Src.block;rw[Rs.bind_assoc];refine RU.step (tK h (qx hi) [123]) (fun j _ hj=> ?_);rw[Rs.bind_assoc];refine RP.step (ajP h w4 hj) (fun l k _ hk=> ?_);rw[Rs.bind_assoc];exact RU.step (tK h hk [125]) (fun q _ hq=>li.pure ⟨hq,rfl⟩)
        |false=>
         simp only[jv];refine Ev.to (LF h hi 4) ?_;exact li.pure ⟨_,_,rfl⟩
end
section
variable {Z:Cx}
variable {ex ta:Nat->Rs Syntax} {d:Int}
theorem ao5(h:qU Z): ∀(m:Nat)(x:Syntax)(i:Nat),i<Z.T.length->m<=200->
 kW (fun n q=>pW (jJ n) n q ((200-m:Nat):Int) (Z.st i d) x) (RP Z d (Z.S.Do m x i)):=by
 intro m;induction m with
 |zero=>
  intro x i hi _;refine kW.lp (fun n m=>by simp only[Fq,tJ,jY,pu];exact rfl) ?_;refine Ev.BR (DI hi [46,49]) ?_;unfold Src.Do;cases h1:Z.S.sym [46,49] i with
  |true=>
   refine Ev.BR (xE h hi (k:=((200-0:Nat):Int)) (by omega)) ?_;exact kW.pure ⟨_,rfl⟩
  |false=>
   simp only[jv,gr];refine Ev.BR (DI hi [46,50]) ?_;cases h2:Z.S.sym [46,50] i with
   |true=>
    refine Ev.BR (xE h hi (k:=((200-0:Nat):Int)) (by omega)) ?_;exact kW.pure ⟨_,rfl⟩
   |false=>exact kW.pure ⟨hi,rfl⟩
 |succ m ih=>
  intro x i hi hm
  have go:kW (fun n q=>(kO n ((200-(m+1):Nat):Int) (Z.st i d)).bind fun x_1=>BQ x_1 (fun x_2=>(kE n x_2.fst.fst.fst).bind fun x_3=>
   bif x_3.snd.fst==[46,50] then(mY n x_3.fst.fst).bind fun x_4=>pW (jJ n) n q (IntKind.i64.wrap (((200-(m+1):Nat):Int)+1)) x_3.fst.fst (Syntax.mk 8 [] 0 [] [] [x] x.from_ x_4)
   else(mY n x_3.fst.fst).bind fun x_4=>pW (jJ n) n q (IntKind.i64.wrap (((200-(m+1):Nat):Int)+1)) x_3.fst.fst (Syntax.mk 7 [] 0 [] [] [x] x.from_ x_4)) fun y=>some (PR.pn (((y.fst.fst.fst,()),()),y.snd.fst,())))
   (RP Z d (Z.S.Do m (.mk (bif (Z.S.K i).2==[46,50] then 8 else 7) [] 0 [] [] [x] x.from_ (Z.S.E (Z.S.nx i))) (Z.S.nx i))):=by
   refine Ev.BR (yF hi (k:=((200-(m+1):Nat):Int)) (by omega)) ?_;refine Ev.BR (ug h hi) ?_;rw[show IntKind.i64.wrap (((200-(m+1):Nat):Int)+1)=((200-m:Nat):Int) by grind [wrap_small]];cases (Z.S.K i).2==[46,50] with
   |true=>
    refine Ev.BR (Q2 h (qx hi)) ?_;exact ih _ _ (qx hi) (by omega)
   |false=>
    refine Ev.BR (Q2 h (qx hi)) ?_;exact ih _ _ (qx hi) (by omega)
  refine kW.lp (fun n m=>by simp only[Fq,tJ,jY,pu];exact rfl) ?_;refine Ev.BR (DI hi [46,49]) ?_;unfold Src.Do;cases h1:Z.S.sym [46,49] i with
  |true=>exact go
  |false=>
   simp only[jv,gr];refine Ev.BR (DI hi [46,50]) ?_;cases h2:Z.S.sym [46,50] i with
   |true=>exact go
   |false=>exact kW.pure ⟨hi,rfl⟩
theorem arF(h:qU Z)(hb:Nx Z d nY (Z.S.basic ex ta)):Nx Z d nO (Z.S.Q1 ex ta):=by
 intro i hi;refine li.fn (fun n=>by simp only[U8,xB,jY,pu];exact rfl) ?_;exact RP.step (hb i hi) (fun x j _ hj=>li.AN (F:=fun n q=>pW (jJ n) n q 0 (Z.st j d) x) (ao5 h 200 x j hj (gf _)))
theorem arG(h:qU Z)(ha:Nx Z d nO (Z.S.Q1 ex ta)): ∀(m:Nat)(x:Syntax)(i:Nat),i<Z.T.length->m<=199->
 kW (fun n q=>uz (jJ n) n q ((200-m:Nat):Int) (Z.st i d) x) (RP Z d (Z.S.NY ex ta m x i)):=by
 intro m;induction m with
 |zero=>
  intro x i hi _;refine kW.lp (fun n m=>by simp only[GD,uy,jY,pu];exact rfl) ?_;refine Ev.BR (VP hi) ?_;unfold Src.NY;cases hs:Z.S.vN i with
  |false=>exact kW.pure ⟨hi,rfl⟩
  |true=>
   simp only[ju];refine Ev.BR (xE h hi (k:=((200-0:Nat):Int)) (by omega)) ?_;exact kW.pure ⟨_,rfl⟩
 |succ m ih=>
  intro x i hi hm;refine kW.lp (fun n m=>by simp only[GD,uy,jY,pu];exact rfl) ?_;refine Ev.BR (VP hi) ?_;unfold Src.NY;cases hs:Z.S.vN i with
  |false=>exact kW.pure ⟨hi,rfl⟩
  |true=>
   simp only[ju];refine Ev.BR (yF hi (k:=((200-(m+1):Nat):Int)) (by omega)) ?_;refine RP.step2 (ha _ hi) (fun y j _ hj=> ?_)
   grind [wrap_small]
theorem auI(h:qU Z)(ha:Nx Z d nO (Z.S.Q1 ex ta)):Nx Z d pg (Z.S.app ex ta):=by
 intro i hi;refine li.fn (fun n=>by simp only[Wt,yE,jY,pu];exact rfl) ?_;exact RP.step (ha i hi) (fun x j _ hj=>li.AN (F:=fun n q=>uz (jJ n) n q 1 (Z.st j d) x) (arG h ha 199 x j hj (gf _)))
theorem arH(h:qU Z)(hc: ∀s,Ev (fun n=>mj n Z.sy s) (Z.sy.contains s))(ha:Nx Z d pg (Z.S.app ex ta)):Nx Z d nq (Z.S.item ex ta):=by
 intro i hi;refine li.fn (fun n=>by simp only[U7,xz,jY,pu];exact rfl) ?_;refine Ev.to (adw hc hi) ?_;unfold Src.item;cases hs:Z.S.BN i with
 |true=>
  simp only[ju];refine Ev.to (VN h hi) ?_;refine Ev.to (ug h hi) ?_;refine Ev.to (Q2 h (qx hi)) ?_;exact li.pure ⟨qx hi,rfl⟩
 |false=>
  simp only[jv];refine li.bind (ha i hi) fun r hr=> ?_
  cases hq:Z.S.app ex ta i with
  |ok x j=>rw[hq] at hr;obtain⟨hj,rfl⟩:=hr;exact li.pure ⟨hj,rfl⟩
  |er e a=>rw[hq] at hr;obtain⟨p,rfl⟩:=hr;exact li.pure ⟨p,rfl⟩
end
section
variable {Z:Cx}
variable {ex ta:Nat->Rs Syntax} {d:Int}
theorem ao6(h:qU Z)(k:XL Z.S)(w4:Nx Z d kK ta)
 (hp: ∀o i,i<Z.T.length->li (fun n=>nL n (.mk 0 [] 0 [] [] [] (Z.S.F o) 0) (Z.st i d)) (RP Z d (Z.S.DH ex o i))):Nx Z d nY (Z.S.basic ex ta):=by
 intro i hi;refine li.fn (fun n=>by simp only[St,wI,jY,pu];exact rfl) ?_;refine Ev.to (VN h hi) ?_;refine Ev.to (qf h hi [40]) ?_;unfold Src.basic;cases hs:Z.S.sym [40] i with
 |true=>
  simp only[ju];refine li.bind (hp i _ (qx hi)) fun r hr=> ?_
  cases hq:Z.S.DH ex i (Z.S.nx i) with
  |ok x j=>rw[hq] at hr;obtain⟨hj,rfl⟩:=hr;exact li.pure ⟨hj,rfl⟩
  |er e a=>rw[hq] at hr;obtain⟨p,rfl⟩:=hr;exact li.pure ⟨p,rfl⟩
 |false=>
  simp only[jv];refine li.bind (arE h k w4 hi) fun r hr=> ?_
  cases hq:Z.S.fill ta i with
  |ok x j=>
   rw[hq] at hr;obtain⟨hj,rfl⟩:=hr;exact li.bind (Ev.tot (Q2 h hj) rfl) fun r hr=>by subst hr;exact li.pure ⟨hj,rfl⟩
  |er e a=>rw[hq] at hr;obtain⟨p,x,rfl⟩:=hr;exact li.pure ⟨p,rfl⟩
end
theorem bor(a b:Bool)(x y:α):(bif a||b then x else y)=bif a then x else bif b then x else y:=by cases a<;>rfl
theorem li.ite{α R:Type}{c:Bool}{A B:Nat->Option R}{Q:α->R->Prop}{x y:α}(h1:c=true->li A (Q x))(h2:c=false->li B (Q y)):li (fun n=>bif c then A n else B n) (Q (bif c then x else y)):=by
 cases c with
 |true=>exact h1 rfl
 |false=>exact h2 rfl
section
variable {Z:Cx}
variable {ex ta:Nat->Rs Syntax} {d:Int}
theorem arI(h:qU Z){i:Nat}{d:Int}(hi:i<Z.T.length):Ev (fun n=>wz n (Z.st i d)) (((Z.st (Z.S.nx i) d,()),()),(Z.S.K i).2,()):=by
 refine Ev.fn (fun n=>by simp only[wz,kq,zb,mB];exact rfl) ?_;refine Ev.bind (BA hi) ?_;rw[EP hi];have hl:=h.len;have e:IntKind.i64.wrap ((i:Int)+1)=((i+1:Nat):Int):=kz (by omega);have e2:decide ((((i+1:Nat):Int))<(Z.T.length:Int))=decide (i+1<Z.T.length):=decide_eq_decide.2 (by omega);simp only[Cx.st,e,e2];have hlen:Z.S.len=Z.T.length:=rfl
 grind [Src.nx,Ev.pure]
def kT(w:Str)(f:Int)(r:List Str×List Syntax)(j:Nat):Rs Syntax:= .ok (.mk 15 w 0 r.1 [] r.2 f 0) j
theorem ao7(h:qU Z)(w:Str)(f:Int): ∀(m:Nat)(out:List Str)(i:Nat),i<Z.T.length->m+out.length=200->
 kW (fun n q=>s7 (jJ n) n q (Z.st i d) 15 w 0 [] [] f 0 out) (RF Z d ((Z.S.Kb m out i).bind fun l j=>kT w f (l,[]) j)):=by
 intro m;induction m with
 |zero=>
  intro out i hi hm;refine kW.lp (fun n m=>by simp only[Eh,s6,jY,pu];exact rfl) ?_;refine Ev.BR (BA hi) ?_;unfold Src.Kb;rw[show(Z.S.K i).1=Z.T[i].kind by rw[EP hi]];cases hs:Z.T[i].kind==0 with
  |false=>exact kW.pure ⟨hi,rfl⟩
  |true=>
   refine Ev.BR (xE h hi (k:=(out.length:Int)) (by omega)) ?_;exact kW.pure ⟨_,_,rfl⟩
 |succ m ih=>
  intro out i hi hm;refine kW.lp (fun n m=>by simp only[Eh,s6,jY,pu];exact rfl) ?_;refine Ev.BR (BA hi) ?_;unfold Src.Kb;rw[show(Z.S.K i).1=Z.T[i].kind by rw[EP hi]];cases hs:Z.T[i].kind==0 with
  |false=>exact kW.pure ⟨hi,rfl⟩
  |true=>
   refine Ev.BR (yF hi (k:=(out.length:Int)) (by omega)) ?_;refine Ev.BR (arI h hi) ?_
   grind [qx]
theorem ao8(h:qU Z)(hex:Nx Z d kg ex)(w4:Nx Z d kK ta){i:Nat}(hi:i<Z.T.length)(w:Str)(f:Int):
 li (fun n=>oU n (Z.st i d) (.mk 15 w 0 [] [] [] f 0)) (RF Z d ((Z.S.known ex ta w i).bind (kT w f))):=by
 have hj:=qx hi;have sk:=ug (d:=d) h hi;refine li.fn (fun n=>by simp only[Sv,wK,jY,pu];exact rfl) ?_;unfold Src.known;simp only[gD,List.contains_nil,gU,bor,Syntax.prj]
 have hE:li (fun n=>(kE n (Z.st i d)).bind fun x=>(kg n x.fst.fst).bind fun x=>BQ x (fun x=>some (PR.ok (((x.fst.fst.fst,()),(Syntax.mk 15 w 0 [] [] [x.snd.fst] f 0,()),()),()))) fun y=>some (PR.pn (((y.fst.fst.fst,()),(Syntax.mk 15 w 0 [] [] [] f 0,()),()),y.snd.fst,())))
  (RF Z d (((ex (Z.S.nx i)).bind fun x j=>Rs.ok (([],[x]):List Str×List Syntax) j).bind (kT w f))):=by
  refine Ev.to sk ?_;rw[Rs.bind_assoc];exact RP.step (hex _ hj) fun x j _ hj=>li.pure ⟨hj,rfl⟩
 have hT:li (fun n=>(kE n (Z.st i d)).bind fun x=>(kK n x.fst.fst).bind fun x=>BQ x (fun x=>some (PR.ok (((x.fst.fst.fst,()),(Syntax.mk 15 w 0 [] [] [x.snd.fst] f 0,()),()),()))) fun y=>some (PR.pn (((y.fst.fst.fst,()),(Syntax.mk 15 w 0 [] [] [] f 0,()),()),y.snd.fst,())))
  (RF Z d (((ta (Z.S.nx i)).bind fun x j=>Rs.ok (([],[x]):List Str×List Syntax) j).bind (kT w f))):=by
  refine Ev.to sk ?_;rw[Rs.bind_assoc];exact RP.step (w4 _ hj) fun x j _ hj=>li.pure ⟨hj,rfl⟩
 have hS:li (fun n=>(kE n (Z.st i d)).bind fun x=>some (PR.ok (((x.fst.fst,()),(Syntax.mk 15 w 0 [] [] [] f 0,()),()),())))
  (RF Z d ((Rs.ok (([],[]):List Str×List Syntax) (Z.S.nx i)).bind (kT w f))):=by
  refine Ev.to sk ?_;exact li.pure ⟨hj,rfl⟩
 have hN:li (fun n=>(kE n (Z.st i d)).bind fun x=>(ou n x.fst.fst).bind fun x=>BQ x (fun x=>some (PR.ok (((x.fst.fst.fst,()),(Syntax.mk 15 w 0 [x.snd.fst] [] [] f 0,()),()),()))) fun y=>some (PR.pn (((y.fst.fst.fst,()),(Syntax.mk 15 w 0 [] [] [] f 0,()),()),y.snd.fst,())))
  (RF Z d (((Z.S.Jn (Z.S.nx i)).bind fun x j=>Rs.ok (([x],[]):List Str×List Syntax) j).bind (kT w f))):=by
  refine Ev.to sk ?_;rw[Rs.bind_assoc];exact RP.step (afD h hj) fun x j _ hj=>li.pure ⟨hj,rfl⟩
 refine li.ite (Q:=fun s=>RF Z d (Rs.bind s (kT w f))) (fun _=> ?_) fun _=> ?_
 ·refine Ev.to sk ?_;refine li.bind (afG h w4 hj _) fun r hr=> ?_
  cases hq:Z.S.block ta (Z.S.nx i) with
  |ok l j=>rw[hq] at hr;obtain⟨hj,rfl⟩:=hr;exact li.pure ⟨hj,rfl⟩
  |er e a=>rw[hq] at hr;obtain⟨p,x,rfl⟩:=hr;exact li.pure ⟨_,_,rfl⟩
 iterate 5 refine li.ite (Q:=fun s=>RF Z d (Rs.bind s (kT w f))) (fun _=>hE) fun _=> ?_
 iterate 4 refine li.ite (Q:=fun s=>RF Z d (Rs.bind s (kT w f))) (fun _=>hS) fun _=> ?_
 refine li.ite (Q:=fun s=>RF Z d (Rs.bind s (kT w f))) (fun _=> ?_) fun _=> ?_
 ·refine Ev.to sk ?_;rw[Rs.bind_assoc];exact RP.step (VO h hj) fun x j _ hj=>li.pure ⟨hj,rfl⟩
 refine li.ite (Q:=fun s=>RF Z d (Rs.bind s (kT w f))) (fun _=> ?_) fun _=> ?_
 ·refine Ev.to sk ?_;rw[Rs.bind_assoc];exact RP.step (arz h hj) fun x j _ hj=>li.pure ⟨hj,rfl⟩
 iterate 4 refine li.ite (Q:=fun s=>RF Z d (Rs.bind s (kT w f))) (fun _=>hN) fun _=> ?_
 refine li.ite (Q:=fun s=>RF Z d (Rs.bind s (kT w f))) (fun _=> ?_) fun _=> ?_
 ·refine Ev.to sk ?_;rw[Rs.bind_assoc];refine RP.step (ajK h hj) fun s j _ hj=> ?_
  rw[Rs.bind_assoc];exact li.AN (F:=fun n q=>s7 (jJ n) n q (Z.st j d) 15 w 0 [] [] f 0 [s]) (ao7 h w f 199 [s] j hj rfl)
 iterate 2 refine li.ite (Q:=fun s=>RF Z d (Rs.bind s (kT w f))) (fun _=>hT) fun _=> ?_
 exact Ev.to (LF h hi 4) (li.pure ⟨_,_,rfl⟩)
theorem stD{i:Nat}(hd:0<=d/\d<200):({q7:=(Z.st i d).q7,table:=(Z.st i d).table,ww:=(Z.st i d).ww,depth:=IntKind.i64.wrap ((Z.st i d).depth+1)}:jG)=Z.st i (d+1):=by
 show({q7:=_,table:=_,ww:=_,depth:=IntKind.i64.wrap (d+1)}:jG)=_;rw[wrap_small (by omega) (by omega)];rfl
theorem ams(p:jG):Ev (fun n=>oa n p) (((),({q7:=p.q7,table:=p.table,ww:=p.ww,depth:=IntKind.i64.wrap (p.depth-1)},()),()),()):=by
 refine Ev.fn (fun n=>by simp only[oa,kq,vz,mB];exact rfl) ?_;exact Ev.pure
theorem stU{i:Nat}(hd:0<=d/\d<200):({q7:=(Z.st i (d+1)).q7,table:=(Z.st i (d+1)).table,ww:=(Z.st i (d+1)).ww,depth:=IntKind.i64.wrap ((Z.st i (d+1)).depth-1)}:jG)=Z.st i d:=by
 show({q7:=_,table:=_,ww:=_,depth:=IntKind.i64.wrap (d+1-1)}:jG)=_;rw[wrap_small (by omega) (by omega),show d+1-1=d by omega];rfl
theorem amt(h:qU Z)(hd:0<=d/\d<200)(hex:Nx Z (d+1) kg ex)(w4:Nx Z (d+1) kK ta):Nx Z d kK (Z.S.RV ex ta):=by
 intro i hi;refine li.fn (fun n=>by simp only[GH,s5,jY,pu];exact rfl) ?_;refine Ev.to (yF hi (k:=d) hd.2) ?_;simp only[BQ,stD hd];refine Ev.to (BA hi) ?_;refine Ev.to (VN h hi) ?_;refine Ev.to (DI hi [123]) ?_;unfold Src.RV;rw[show(Z.S.K i).1=Z.T[i].kind by rw[EP hi],show(Z.S.K i).2=Z.T[i].text by rw[EP hi]]
 have fin: ∀(s:Rs (List Str×List Syntax))(F:Nat->Option (PR (((jG×Unit)×((Syntax×Unit)×Unit))×Unit) (((jG×Unit)×((Syntax×Unit)×Unit))×(jT×Unit)))),li F (RF Z (d+1) (s.bind (kT Z.T[i].text (Z.S.F i))))->
  li (fun n=>(F n).bind fun x=>BQ x (fun x=>(mY n x.fst.fst.fst).bind fun x_4=>(oa n x.fst.fst.fst).bind fun x_5=>some (PR.ok (((x_5.fst.snd.fst.fst,()),()),Syntax.mk x.fst.snd.fst.fst.kind x.fst.snd.fst.fst.text x.fst.snd.fst.fst.num x.fst.snd.fst.fst.names x.fst.snd.fst.fst.levels x.fst.snd.fst.fst.kids x.fst.snd.fst.fst.from_ x_4,())))
   fun y=>(oa n y.fst.fst.fst).bind fun x=>some (PR.pn (((x.fst.snd.fst.fst,()),()),y.snd.fst,()))) (RP Z d (s.bind fun p j=> .ok (.mk 15 Z.T[i].text 0 p.1 [] p.2 (Z.S.F i) (Z.S.E j)) j)):=by
  intro s F hF;refine li.bind hF fun r hr=> ?_
  cases s with
  |ok p j=>
   obtain⟨hj,rfl⟩:=hr;refine Ev.to (Q2 h hj) (Ev.to (ams _) ?_);rw[stU hd];exact li.pure ⟨hj,rfl⟩
  |er e a=>
   obtain⟨p,x,rfl⟩:=hr;exact Ev.to (ams _) (li.pure ⟨_,rfl⟩)
 cases hs:Z.S.sym [123] i with
 |true=>
  refine fin ((Z.S.block ta i).bind fun l j=> .ok ([],l) j) _ ?_;have:=afG h w4 hi (.mk 15 Z.T[i].text 0 [] [] [] (Z.S.F i) 0);rw[Rs.bind_assoc];exact this
 |false=>
  simp only[jv];refine Ev.to (BA hi) ?_;refine li.bind (CH h hi _) fun r hr=> ?_
  cases hk:Z.T[i].kind==0 with
  |false=>
   rw[hk] at hr;obtain⟨p,rfl⟩:=hr;exact Ev.to (ams _) (li.pure ⟨_,rfl⟩)
  |true=>
   rw[hk] at hr;obtain⟨_,rfl⟩:=hr;exact fin _ _ (ao8 h hex w4 hi _ _)
theorem ay6(h:qU Z):Nx Z 200 kK (fun i=>Z.S.deep i):=by
 intro i hi;refine li.fn (fun n=>by simp only[GH,s5,jY,pu];exact rfl) ?_;exact Ev.to (xE h hi (k:=200) (by omega)) (li.pure ⟨_,rfl⟩)
end
theorem Q3{p:UInt8->Bool}(h:(List.range 256).all (fun n=>p (UInt8.ofNat n))=true)(c:UInt8):p c=true:=by
 have:=List.all_eq_true.1 h c.toNat (List.mem_range.2 c.toNat_lt)
 rwa [UInt8.ofNat_toNat] at this
def auJ(c:UInt8):Bool:=(decide (97<=c.toNat)&&decide (c.toNat<=122))||(decide (65<=c.toNat)&&decide (c.toNat<=90))
def yf(c:UInt8):Bool:=auJ c||c==95
def pq(c:UInt8):Bool:=decide (48<=c.toNat)&&decide (c.toNat<=57)
def L9(c:UInt8):Bool:=yf c||(pq c||c==39)
def zI(c:UInt8):Int:=bif yf c then 1 else bif pq c then 2 else bif c==34 then 3 else 0
theorem LH(c:UInt8):Ev (fun n=>zW n (c.toNat:Int)) (zI c):=by
 refine Ev.fn (fun n=>by simp only[zW,kq,Na,mB];exact rfl) ?_;refine Ev.congr Ev.pure (fun _=> ?_)
 have:=Q3 (p:=fun c=>decide ((bif decide (97<=(c.toNat:Int)) then
  bif decide ((c.toNat:Int)<=122) then some 1
  else
   bif decide (65<=(c.toNat:Int)) then
    bif decide ((c.toNat:Int)<=90) then some 1
    else
     bif (c.toNat:Int)==95 then some 1
     else
      bif decide (48<=(c.toNat:Int)) then bif decide ((c.toNat:Int)<=57) then some 2 else bif (c.toNat:Int)==34 then some 3 else some 0
      else bif (c.toNat:Int)==34 then some 3 else some 0
   else
    bif (c.toNat:Int)==95 then some 1
    else
     bif decide (48<=(c.toNat:Int)) then bif decide ((c.toNat:Int)<=57) then some 2 else bif (c.toNat:Int)==34 then some 3 else some 0
     else bif (c.toNat:Int)==34 then some 3 else some 0
  else
   bif decide (65<=(c.toNat:Int)) then
    bif decide ((c.toNat:Int)<=90) then some 1
    else
     bif (c.toNat:Int)==95 then some 1
     else
      bif decide (48<=(c.toNat:Int)) then bif decide ((c.toNat:Int)<=57) then some 2 else bif (c.toNat:Int)==34 then some 3 else some 0
      else bif (c.toNat:Int)==34 then some 3 else some 0
   else
    bif (c.toNat:Int)==95 then some 1
    else
     bif decide (48<=(c.toNat:Int)) then bif decide ((c.toNat:Int)<=57) then some 2 else bif (c.toNat:Int)==34 then some 3 else some 0
     else bif (c.toNat:Int)==34 then some 3 else some 0)=some (zI c))) (jE) c
 exact jy this
theorem ao9(c:UInt8):Ev (fun n=>Ke n (c.toNat:Int)) (auJ c):=by
 refine Ev.fn (fun n=>by simp only[Ke,kq,KS,mB];exact rfl) ?_
 grind [Ev.pure,auJ]
theorem s8(c:UInt8)(k:Nat)(hk:k<256):((c.toNat:Int)==(k:Int))=(c==UInt8.ofNat k):=by
 rw[gF,jB,jB];constructor
 ·grind [UInt8.ofNat_toNat]
 simp_all [Nat.mod_eq_of_lt]
theorem VQ(c:UInt8):Ev (fun n=>ub n (c.toNat:Int)) (yf c):=by
 refine Ev.fn (fun n=>by simp only[ub,kq,KZ,mB];exact rfl) ?_;refine Ev.bind (ao9 c) ?_;unfold yf;cases auJ c with
 |true=>exact Ev.pure
 |false=>
  simp only[jv,gr];rw[show((c.toNat:Int)==95)=(c==95) from s8 c 95 (by decide)];exact Ev.pure
theorem Vj(c:UInt8):Ev (fun n=>IN n (c.toNat:Int)) (pq c):=by
 refine Ev.fn (fun n=>by simp only[IN,kq,M5,mB];exact rfl) ?_
 grind [Ev.pure,pq]
theorem Pm(c:UInt8):(zI c==1)=yf c:=by grind [zI]
theorem Pn(c:UInt8):(zI c==2)=pq c:=by
 have:=Q3 (p:=fun c=>(zI c==2)==pq c) (jE) c;exact eq_of_beq this
theorem VR(c:UInt8):Ev (fun n=>vC n (c.toNat:Int)) (L9 c):=by
 refine Ev.fn (fun n=>by simp only[vC,kq,K1,mB];exact rfl) ?_;refine Ev.bind (LH c) ?_;rw[Pm];unfold L9;cases yf c with
 |true=>exact Ev.pure
 |false=>
  simp only[jv,gr];refine Ev.bind (LH c) ?_;rw[Pn];cases pq c with
  |true=>exact Ev.pure
  |false=>
   simp only[jv,gr];rw[show((c.toNat:Int)==39)=(c==39) from s8 c 39 (by decide)];exact Ev.pure
def anB:Str:=[33,35,36,37,38,42,43,45,47,58,60,61,62,63,64,92,94,124,126]
def kws:List Str:=[[102,117,110],[108,101,116],[105,110],[83,105,103,109,97],[80,114,111,112],[84,121,112,101],
       [98,121],[97,120,105,111,109],[100,101,102],[116,104,101,111,114,101,109],
       [105,110,100,117,99,116,105,118,101],[102,117,110,99,116,105,111,110],[97,110,100],
       [101,110,100],[99,108,97,115,115],[105,110,115,116,97,110,99,101],
       [110,111,116,97,116,105,111,110],[110,97,109,101,115,112,97,99,101],[111,112,101,110],
       [99,104,101,99,107],[101,118,97,108],[105,109,112,111,114,116]]
def oV:List Str:=[[40],[41],[40,41],[123],[125],[91],[93],[44],[59],[58],[58,61],[45,62],[61,62],[124],[64],
     [43],[95],[46,123],[46,49],[46,50],[60,124,62]]
theorem afH[BEq α][LawfulBEq α](xs:List α)(v:α)(hl:xs.length<4611686018427387904)
 (h: ∀n m k,L n (m+1) k=bif decide (k<(xs.length:Int)) then(tu xs k).bind fun x=>bif x==v then some true else L n m (IntKind.i64.wrap (k+1)) else some false):
 kC (fun n m=>L n m 0) (xs.contains v):=by
 have key: ∀d k:Nat,k+d=xs.length->kC (fun n m=>L n m (k:Int)) ((xs.drop k).contains v):=by
  intro d;induction d with
  |zero=>
   grind [kC.lp,kC.pure]
  |succ d ih=>
   intro k hk;have hlt:k<xs.length:=by omega
   refine kC.lp (fun n m=>h n m k) ?_;have:decide ((k:Int)<(xs.length:Int))=true:=jw (by omega);simp only[this,ju];refine kC.idx hlt ?_;rw[gk hlt,gD];rw[show(v==xs[k])=(xs[k]==v) from gF.2 ⟨fun h=>by simpa using (jB.1 h).symm,fun h=>by simpa using (jB.1 h).symm⟩];cases xs[k]==v with
   |true=>exact kC.pure
   |false=>
    grind [kz]
 simpa using key xs.length 0 (by omega)
theorem Xb(s:Str):Ev (fun n=>DR n s) (kws.contains s):=by
 refine Ev.fn (fun n=>by simp only[DR,kq,Jw,mB];exact rfl) ?_;exact Ev.AN (F:=fun n m=>CT n m s kws 0) (afH kws s (by decide) (fun n m k=>by simp only[Xv,CS,mB]))
theorem aw9(xs:List Str)(s:Str)(hl:xs.length<4611686018427387904):Ev (fun n=>VG n xs s) (xs.contains s):=by
 refine Ev.fn (fun n=>by simp only[VG,kq,Uj,mB];exact rfl) ?_;exact Ev.AN (F:=fun n m=>Kl n m xs s 0) (afH xs s hl (fun n m k=>by simp only[ada,Kk,mB]))
theorem ajQ:Ev (fun n=>IO n) oV:=by
 refine Ev.fn (fun n=>by simp only[IO,kq,M8,mB];exact rfl) ?_;exact Ev.pure
theorem auK(k:Nat):IX (k+80)=some oV:=jE
theorem afI:Ev (fun n=>IX n) oV:=by
 refine⟨80,fun n hn=> ?_⟩;obtain⟨k,rfl⟩: ∃k,n=k+80:=⟨n-80,by omega⟩;exact auK k
def CJ:List (Str×Bool):=kws.map fun s=>(s,true)
theorem amu(k:Nat):Cg (k+250)=some ((CJ,()),()):=jE
theorem aaQ:Ev (fun n=>Cg n) ((CJ,()),()):=by
 refine⟨250,fun n hn=> ?_⟩;obtain⟨k,rfl⟩: ∃k,n=k+250:=⟨n-250,by omega⟩;exact amu k
theorem XM(s:Str): ∀xs:List Str,(mz s (xs.map fun x=>(x,true))).getD false=xs.contains s
 |[]=>rfl
 |x::xs=>by
  rw[List.map_cons,mz,gD];cases s==x with
  |true=>rfl
  |false=>rw[jv,gr];exact XM s xs
theorem amv(s:Str):Ev (fun n=>Io n s) (kws.contains s):=by
 refine Ev.fn (fun n=>by simp only[Io,kq,JJ,mB];exact rfl) ?_;refine Ev.bind aaQ ?_;rw[<-XM];exact Ev.pure
abbrev big:Nat:=4611686018427387904
theorem drop_cons{s:Str}{k:Nat}(h:k<s.length):s.drop k=s[k]::s.drop (k+1):=gk h
def runT(p:UInt8->Bool)(r:Str):Nat:=(r.takeWhile p).length
theorem ajR(p:UInt8->Bool):runT p []=0:=rfl
theorem qC(p:UInt8->Bool)(c:UInt8)(r:Str):runT p (c::r)=bif p c then runT p r+1 else 0:=by
 grind [runT,List.takeWhile_cons]
theorem C5(p:UInt8->Bool): ∀r:Str,runT p r<=r.length
 |[]=>gf _
 |c::r=>by rw[qC];have:=C5 p r;grind
theorem Zf{R:Type}{s:Str}(hs:s.length<big)(p:UInt8->Bool){L:Nat->Nat->Int->Option R}{r:R}
 (step: ∀k:Nat,∀hk:k<s.length,p s[k]=true->kC (fun n m=>L n m ((k+1:Nat):Int)) r->kC (fun n m=>L n m (k:Int)) r)
 (stop: ∀k:Nat,k<=s.length->(∀hk:k<s.length,p s[k]=false)->k=N->kC (fun n m=>L n m (k:Int)) r):
 ∀k:Nat,k<=s.length->k+runT p (s.drop k)=N->kC (fun n m=>L n m (k:Int)) r:=by
 have key: ∀d k:Nat,k+d=s.length->k+runT p (s.drop k)=N->kC (fun n m=>L n m (k:Int)) r:=by
  intro d;induction d with
  |zero=>
   grind [ajR]
  |succ d ih=>
   intro k hk hN;have hlt:k<s.length:=by omega
   rw[drop_cons hlt,qC] at hN
   grind
 intro k hk hN;exact key (s.length-k) k (by omega) hN
def vl(r:Str):Nat:=runT L9 r
theorem Q4(s:Str)(hs:s.length<big)(k:Nat)(hk:k<=s.length):Ev (fun n=>AZ n s (k:Int)) ((k+vl (s.drop k):Nat):Int):=by
 refine Ev.fn (fun n=>by simp only[AZ,kq,Ge,mB];exact rfl) ?_;refine Ev.AN (F:=fun n m=>wi n m s (k:Int)) ?_;refine Zf hs L9 (L:=fun n m k=>wi n m s k) (N:=k+vl (s.drop k)) ?_ ?_ k hk rfl
 ·intro k hlt hp next
  refine kC.lp (fun n m=>by simp only[Jb,wh,mB];exact rfl) ?_;have:decide ((k:Int)<(s.length:Int))=true:=jw (by omega);simp only[this,ju];refine kC.idx hlt (kC.lH (VQ _) ?_);rw[kz (by simp only[big] at hs;omega)];unfold L9 at hp;cases hb:yf s[k] with
  |true=>simp only[ju];exact next
  |false=>
   simp only[jv];refine kC.idx hlt (kC.lH (Vj _) ?_);cases hd:pq s[k] with
   |true=>simp only[ju];exact next
   |false=>
    simp only[jv];refine kC.idx hlt ?_
    simp_all
 ·intro k hle hp hN;refine kC.lp (fun n m=>by simp only[Jb,wh,mB];exact rfl) ?_;by_cases hlt:k<s.length
  ·have:decide ((k:Int)<(s.length:Int))=true:=jw (by omega);have hp:=hp hlt;unfold L9 at hp;simp only[gP] at hp;obtain⟨h1,h2,h3⟩:=hp;simp only[this,ju];refine kC.idx hlt (kC.lH (VQ _) ?_);simp only[h1,jv];refine kC.idx hlt (kC.lH (Vj _) ?_);simp only[h2,jv];refine kC.idx hlt ?_;rw[show((s[k].toNat:Int)==39)=(s[k]==39) from s8 _ 39 (by decide),h3]
   grind [kC.pure]
  grind [kC.pure]
noncomputable def Po (r:Str):Nat:=
 match h:r.drop (vl r) with
 |d::c::t=>bif d==46&&yf c then vl r+(1+Po (c::t)) else vl r
 |_=>vl r
termination_by r.length
decreasing_by
 grind [gz]
noncomputable def tlT:Str->Nat
 |d::c::t=>bif d==46&&yf c then 1+Po (c::t) else 0
 |_=>0
theorem Q5(r:Str):Po r=vl r+tlT (r.drop (vl r)):=by
 grind [Po,tlT]
theorem Pp(r:Str):vl r<=r.length:=C5 _ _
theorem arJ: ∀r:Str,tlT r<=r.length:=by
 intro r;induction h:r.length using gG generalizing r with
 |ind k ih=>
  unfold tlT
  grind [Pp,Q5]
theorem ahb(r:Str):Po r<=r.length:=by
 grind [Pp,arJ,Q5]
theorem ahc(s:Str)(hs:s.length<big): ∀k:Nat,k<=s.length->kC (fun n m=>Ir n m s (k:Int)) ((k+tlT (s.drop k):Nat):Int):=by
 intro k;induction h:s.length-k using gG generalizing k with
 |ind d ih=>
  intro hk;simp only[big] at hs;refine kC.lp (fun n m=>by simp only[aby,Iq,mB];exact rfl) ?_;rw[kz (by omega)];by_cases h1:k+1<s.length
  ·have e1:decide (((k+1:Nat):Int)<(s.length:Int))=true:=jw (by omega);have hk':k<s.length:=by omega
   simp only[e1,ju];refine kC.idx hk' ?_;rw[drop_cons hk',drop_cons h1];rw[show((s[k].toNat:Int)==46)=(s[k]==46) from s8 _ 46 (by decide)];simp only[tlT];cases s[k]==46 with
   |false=>grind [kC.pure]
   |true=>
    simp only[ju,gh];refine kC.idx h1 (kC.lH (VQ _) ?_);cases yf s[k+1] with
    |false=>grind [kC.pure]
    |true=>
     simp only[ju];refine kC.lH (Q4 s (by simp only[big];omega) (k+1) (by omega)) ?_;have hc:=Pp (s.drop (k+1));rw[gq] at hc;have:=ih (s.length-(k+1+vl (s.drop (k+1)))) (by omega) (k+1+vl (s.drop (k+1))) rfl (by omega);rw[<-drop_cons h1,Q5,gw]
     grind
  ·have e1:decide (((k+1:Nat):Int)<(s.length:Int))=false:=jx (by omega);simp only[e1,jv]
   have:tlT (s.drop k)=0:=by
    have hl:(s.drop k).length<=1:=by rw[gq];omega
    match s.drop k,hl with
    |[],_=>rfl
    |[_],_=>rfl
    |_::_::_,hl=>simp at hl
   rw[this];exact kC.pure
theorem amw(s:Str)(hs:s.length<big)(k:Nat)(hk:k<=s.length):Ev (fun n=>QD n s (k:Int)) ((k+Po (s.drop k):Nat):Int):=by
 refine Ev.fn (fun n=>by simp only[QD,kq,QB,mB];exact rfl) ?_;refine Ev.bind (Q4 s hs k hk) ?_;have hc:=Pp (s.drop k);rw[gq] at hc;have:=ahc s hs (k+vl (s.drop k)) (by omega);rw[Q5,gw]
 grind [Ev.AN]
def JN{R:Type}(F:Nat->Nat->Nat->Option R)(r:R):Prop:= ∃N,∀n m p,N<=n->N<=m->N<=p->F n m p=some r
section ev3
variable {R S:Type}
theorem JN.lp{F G:Nat->Nat->Nat->Option R}{r:R}(h: ∀n m p,F n m (p+1)=G n m p)(hg:JN G r):JN F r:=by
 obtain⟨N,hN⟩:=hg;refine⟨N+1,fun n m p h1 h2 h3=> ?_⟩;obtain⟨q,rfl⟩: ∃q,p=q+1:=⟨p-1,by omega⟩
 grind
theorem JN.BR{F:Nat->Nat->Nat->Option R}{r:R}(h:JN F r):kC (fun n m=>F n m n) r:=by
 obtain⟨N,hN⟩:=h;exact⟨N,fun n m h1 h2=>hN n m n h1 h2 h1⟩
theorem JN.AN{F:Nat->Nat->Option R}{r:R}(h:kC F r):JN (fun n m _=>F n m) r:=by
 obtain⟨N,hN⟩:=h;exact⟨N,fun n m p h1 h2 _=>hN n m h1 h2⟩
theorem JN.pure{r:R}:JN (fun _ _ _=>some r) r:=⟨0,fun _ _ _ _ _ _=>rfl⟩
theorem JN.lH{F:Nat->Option S}{G:Nat->Nat->Nat->S->Option R}{x:S}{r:R}(h:Ev F x)(hg:JN (fun n m p=>G n m p x) r):JN (fun n m p=>(F n).bind (G n m p)) r:=by
 obtain⟨N,hN⟩:=h;obtain⟨M,hM⟩:=hg;refine⟨max N M,fun n m p h1 h2 h3=> ?_⟩
 grind
theorem JN.idx{xs:List S}{i:Nat}{G:Nat->Nat->Nat->S->Option R}{r:R}(hi:i<xs.length)(hg:JN (fun n m p=>G n m p xs[i]) r):JN (fun n m p=>(tu xs (i:Int)).bind (G n m p)) r:=by
 grind [tu]
end ev3
theorem afJ{R:Type}{s:Str}(p:UInt8->Bool){L:Nat->Nat->Nat->Int->Option R}{r:R}
 (step: ∀k:Nat,∀hk:k<s.length,p s[k]=true->JN (fun n m q=>L n m q ((k+1:Nat):Int)) r->JN (fun n m q=>L n m q (k:Int)) r)
 (stop: ∀k:Nat,k<=s.length->(∀hk:k<s.length,p s[k]=false)->k=N->JN (fun n m q=>L n m q (k:Int)) r):
 ∀k:Nat,k<=s.length->k+runT p (s.drop k)=N->JN (fun n m q=>L n m q (k:Int)) r:=by
 have key: ∀d k:Nat,k+d=s.length->k+runT p (s.drop k)=N->JN (fun n m q=>L n m q (k:Int)) r:=by
  intro d;induction d with
  |zero=>
   grind [ajR]
  |succ d ih=>
   intro k hk hN;have hlt:k<s.length:=by omega
   rw[drop_cons hlt,qC] at hN
   grind
 intro k hk hN;exact key (s.length-k) k (by omega) hN
abbrev Scn:=(Str×Int×Unit)×List (Str×Bool)×List (Str×Bool)×List (Str×Bool)×Unit
def scn(s:Str)(at_:Int)(r1 r2 r3:List (Str×Bool)):Scn:=((s,at_,()),r1,r2,r3,())
def pk(x:Scn)(r:Int×Int×Int):Scn×Int×Int×Int×Unit:=(x,r.1,r.2.1,r.2.2,())
def afK(s:Str)(at_:Nat)(r1 r2:List (Str×Bool))(to:Nat):Int×Int×Int:=
 bif decide ((64:Int)<(((s.take to).drop at_).length:Int)) then(0,at_,5)
 else bif (s.take to).drop at_==[95] then(2,to,0)
 else bif (mz ((s.take to).drop at_) r2).getD false then(2,to,0)
 else bif (mz ((s.take to).drop at_) r1).getD false then(3,to,0)
 else(0,to,0)
theorem auL (s:Str) (hs:s.length<big) (at_:Nat) (r1 r2 r3:List (Str×Bool)) (ha:at_<=s.length):
 Ev (fun n=>As n s (at_:Int) r1 r2 r3) (pk (scn s at_ r1 r2 r3) (afK s at_ r1 r2 (at_+Po (s.drop at_)))):=by
 simp only[big] at hs
 have fin: ∀to:Nat,at_<=to->to<=s.length->JN (fun n m p=>bif decide ((0:Int)<=(at_:Int)/\(at_:Int)<=(to:Int)/\(to:Int)<=(s.length:Int)) then
  bif decide ((64:Int)<((gO (at_:Int).toNat (List.take (to:Int).toNat s)).length:Int)) then
   some (((s,(at_:Int),()),r1,r2,r3,()),(0:Int),(at_:Int),(5:Int),())
  else
   bif gO (at_:Int).toNat (List.take (to:Int).toNat s)==[95] then
    some (((s,(at_:Int),()),r1,r2,r3,()),(2:Int),(to:Int),(0:Int),())
   else
    bif (mz (gO (at_:Int).toNat (List.take (to:Int).toNat s)) r2).getD false then
     some (((s,(at_:Int),()),r1,r2,r3,()),(2:Int),(to:Int),(0:Int),())
    else
     bif (mz (gO (at_:Int).toNat (List.take (to:Int).toNat s)) r1).getD false then
      some (((s,(at_:Int),()),r1,r2,r3,()),(3:Int),(to:Int),(0:Int),())
     else some (((s,(at_:Int),()),r1,r2,r3,()),(0:Int),(to:Int),(0:Int),())
  else none) (pk (scn s at_ r1 r2 r3) (afK s at_ r1 r2 to)):=by
  intro to h1 h2;have e:decide ((0:Int)<=(at_:Int)/\(at_:Int)<=(to:Int)/\(to:Int)<=(s.length:Int))=true:=jw (by omega);simp only[e,ju,gy];unfold afK;cases decide ((64:Int)<(((s.take to).drop at_).length:Int)) with
  |true=>exact JN.pure
  |false=>
   cases (s.take to).drop at_==[95] with
   |true=>exact JN.pure
   |false=>
    cases (mz ((s.take to).drop at_) r2).getD false with
    |true=>exact JN.pure
    |false=>
     cases (mz ((s.take to).drop at_) r1).getD false with
     |true=>exact JN.pure
     |false=>exact JN.pure
 have outer: ∀k:Nat,at_<=k->k<=s.length->kC (fun n m=>pV n m (k:Int) s (at_:Int) r1 r2 r3) (pk (scn s at_ r1 r2 r3) (afK s at_ r1 r2 (k+Po (s.drop k)))):=by
  intro k;induction h:s.length-k using gG generalizing k with
  |ind d ih=>
   intro hak hk;refine kC.lp (G:=fun n m=>qW n (pV n m) n (k:Int) s (at_:Int) r1 r2 r3) (fun n m=>by simp_all [OR,wC]) ?_;refine JN.BR (F:=fun n m p=>qW n (pV n m) p (k:Int) s (at_:Int) r1 r2 r3) ?_
   have hbase: ∀q:Nat,k<=q->q=k+vl (s.drop k)->k+Po (s.drop k)=q+tlT (s.drop q):=by
    grind [Q5,gw]
   refine afJ (s:=s) L9 (L:=fun n m p k=>qW n (pV n m) p k s (at_:Int) r1 r2 r3) (N:=k+vl (s.drop k)) ?_ ?_ k hk rfl
   ·intro q hlt hp next
    refine JN.lp (fun n m p=>by simp only[E6,tC,mB];exact rfl) ?_;have e:decide ((q:Int)<(s.length:Int))=true:=jw (by omega);simp only[e,ju];refine JN.idx hlt (JN.lH (VR _) ?_);rw[hp,kz (by omega)]
    grind
   ·intro q hle hp hN;have hq:=Pp (s.drop k);rw[gq] at hq;rw[hbase q (by omega) hN];refine JN.lp (fun n m p=>by simp only[E6,tC,mB];exact rfl) ?_;rw[kz (by omega)];have stop:tlT (s.drop q)=0->q+tlT (s.drop q)=q:=by omega
    by_cases hlt:q<s.length
    ·have e:decide ((q:Int)<(s.length:Int))=true:=jw (by omega);simp only[e,ju];refine JN.idx hlt (JN.lH (VR _) ?_);rw[hp hlt];simp only[jv];by_cases h1:q+1<s.length
     ·have e1:decide ((s.length:Int)<=((q+1:Nat):Int))=false:=jx (by omega);simp only[e1,jv];refine JN.idx hlt ?_;rw[show((s[q].toNat:Int) !=46)= !(s[q]==46) from by rw[bne,show((s[q].toNat:Int)==46)=(s[q]==46) from s8 _ 46 (by decide)]];rw[drop_cons hlt,drop_cons h1];simp only[tlT];cases s[q]==46 with
      |false=>
       simp only[gv,ju,hO,jv,gX];exact fin q (by omega) hle
      |true=>
       simp only[gJ,jv,gh];refine JN.idx h1 (JN.lH (LH _) ?_);rw[bne,Pm];cases yf s[q+1] with
       |false=>
        simp only[gv,ju,jv,gX];exact fin q (by omega) hle
       |true=>
        simp only[gJ,jv,ju];have:=ih (s.length-(q+1)) (by omega) (q+1) rfl (by omega) (by omega);rw[drop_cons h1] at this
        grind [JN.AN]
     ·have e1:decide ((s.length:Int)<=((q+1:Nat):Int))=true:=jw (by omega)
      have:tlT (s.drop q)=0:=by
       have hl:(s.drop q).length<=1:=by rw[gq];omega
       match s.drop q,hl with
       |[],_=>rfl
       |[_],_=>rfl
       |_::_::_,hl=>simp at hl
      rw[stop this];simp only[e1,ju];exact fin q (by omega) hle
    ·have e:decide ((q:Int)<(s.length:Int))=false:=jx (by omega);have e1:decide ((s.length:Int)<=((q+1:Nat):Int))=true:=jw (by omega);rw[gj (show s.length<=q by omega)];simp only[e,e1,ju,jv,tlT,gX];exact fin q (by omega) hle
 refine Ev.fn (fun n=>by simp only[As,kq,Ci,mB];exact rfl) ?_
 grind [Ev.AN]
def Pq(r:Str):Int×Nat×Int:=
 bif decide (6<runT pq r) then(0,0,5)
 else bif decide (1<runT pq r)&&r.head?==some 48 then(0,0,4)
 else match r.drop (runT pq r) with
  |d::_=>bif yf d||d==39 then(0,runT pq r,4) else(1,runT pq r,0)
  |[]=>(1,runT pq r,0)
def Ww(at_:Nat)(r:Int×Nat×Int):Int×Int×Int:=(r.1,((at_+r.2.1:Nat):Int),r.2.2)
theorem Pr(c:UInt8)(k:Nat)(hk:k<256):((c.toNat:Int) !=(k:Int))= !(c==UInt8.ofNat k):=by rw[bne,s8 c k hk]
theorem adx{a b:Nat}(h:b<=a)(ha:a<big):IntKind.i64.wrap ((a:Int)-(b:Int))=((a-b:Nat):Int):=by
 grind [wrap_small]
theorem apa (s:Str) (hs:s.length<big) (at_:Nat) (r1 r2 r3:List (Str×Bool)) (ha:at_<s.length):
 Ev (fun n=>xk n s (at_:Int) r1 r2 r3) (pk (scn s at_ r1 r2 r3) (Ww at_ (Pq (s.drop at_)))):=by
 refine Ev.fn (fun n=>by simp only[xk,kq,Au,mB];exact rfl) ?_;have hr:=C5 pq (s.drop at_);rw[gq] at hr;have hd0:s.drop at_=s[at_]::s.drop (at_+1):=drop_cons ha;refine Ev.AN (F:=fun n m=>rO n m (at_:Int) s (at_:Int) r1 r2 r3) ?_;have hb:s.length<4611686018427387904:=hs
 have fin: ∀q:Nat,q=at_+runT pq (s.drop at_)->(∀hq:q<s.length,pq s[q]=false)->kC (fun n m=>bif decide (6<IntKind.i64.wrap ((q:Int)-(at_:Int))) then some (((s,(at_:Int),()),r1,r2,r3,()),(0:Int),(at_:Int),(5:Int),())
  else
   bif decide (1<IntKind.i64.wrap ((q:Int)-(at_:Int))) then
    (tu s (at_:Int)).bind fun x=>
      bif (x.toNat:Int)==48 then some (((s,(at_:Int),()),r1,r2,r3,()),(0:Int),(at_:Int),(4:Int),())
      else
       bif decide ((q:Int)<(s.length:Int)) then
        (tu s (q:Int)).bind fun x=>
          (vC n (x.toNat:Int)).bind fun x=>
            bif x then some (((s,(at_:Int),()),r1,r2,r3,()),(0:Int),(q:Int),(4:Int),())
            else some (((s,(at_:Int),()),r1,r2,r3,()),(1:Int),(q:Int),(0:Int),())
       else some (((s,(at_:Int),()),r1,r2,r3,()),(1:Int),(q:Int),(0:Int),())
   else
    bif decide ((q:Int)<(s.length:Int)) then
     (tu s (q:Int)).bind fun x=>
       (vC n (x.toNat:Int)).bind fun x=>
         bif x then some (((s,(at_:Int),()),r1,r2,r3,()),(0:Int),(q:Int),(4:Int),())
         else some (((s,(at_:Int),()),r1,r2,r3,()),(1:Int),(q:Int),(0:Int),())
    else some (((s,(at_:Int),()),r1,r2,r3,()),(1:Int),(q:Int),(0:Int),())) (pk (scn s at_ r1 r2 r3) (Ww at_ (Pq (s.drop at_)))):=by
  intro q hq hdq
  have hsub:IntKind.i64.wrap ((q:Int)-(at_:Int))=((runT pq (s.drop at_):Nat):Int):=by
   rw[adx (by omega) (by simp only[big];omega)];congr 1;omega
  have e6:decide ((6:Int)<((runT pq (s.drop at_):Nat):Int))=decide (6<runT pq (s.drop at_)):=decide_eq_decide.2 (by omega);have e1:decide ((1:Int)<((runT pq (s.drop at_):Nat):Int))=decide (1<runT pq (s.drop at_)):=decide_eq_decide.2 (by omega)
  have rest:kC (fun n m=>bif decide ((q:Int)<(s.length:Int)) then
        (tu s (q:Int)).bind fun x=>
          (vC n (x.toNat:Int)).bind fun x=>
            bif x then some (((s,(at_:Int),()),r1,r2,r3,()),(0:Int),(q:Int),(4:Int),())
            else some (((s,(at_:Int),()),r1,r2,r3,()),(1:Int),(q:Int),(0:Int),())
        else some (((s,(at_:Int),()),r1,r2,r3,()),(1:Int),(q:Int),(0:Int),())) (pk (scn s at_ r1 r2 r3) (Ww at_ (match (s.drop at_).drop (runT pq (s.drop at_)) with
  |d::_=>bif yf d||d==39 then(0,runT pq (s.drop at_),4) else(1,runT pq (s.drop at_),0)
  |[]=>(1,runT pq (s.drop at_),0)))):=by
   rw[gw,<-hq];by_cases hlt:q<s.length
   ·have e:decide ((q:Int)<(s.length:Int))=true:=jw (by omega);simp only[e,ju,drop_cons hlt];refine kC.idx hlt (kC.lH (VR _) ?_);have hd:=hdq hlt;unfold L9;rw[hd,gr];cases (yf s[q]||s[q]==39) with
    |true=>simp only[ju];rw[show(q:Int)=((at_+runT pq (s.drop at_):Nat):Int) from by rw[hq]];exact kC.pure
    |false=>simp only[jv];rw[show(q:Int)=((at_+runT pq (s.drop at_):Nat):Int) from by rw[hq]];exact kC.pure
   ·have e:decide ((q:Int)<(s.length:Int))=false:=jx (by omega);simp only[e,jv,gj (show s.length<=q by omega)];rw[show(q:Int)=((at_+runT pq (s.drop at_):Nat):Int) from by rw[hq]];exact kC.pure
  unfold Pq;simp only[hsub,e6,e1];cases decide (6<runT pq (s.drop at_)) with
  |true=>simp only[ju];exact kC.pure
  |false=>
   simp only[jv];cases decide (1<runT pq (s.drop at_)) with
   |false=>grind
   |true=>
    simp only[ju,gh];refine kC.idx ha ?_;rw[show((s[at_].toNat:Int)==48)=(s[at_]==48) from s8 _ 48 (by decide)];have hh:((s.drop at_).head?==some 48)=(s[at_]==48):=by rw[hd0];rfl
    rw[hh];cases s[at_]==48 with
    |true=>simp only[ju];exact kC.pure
    |false=>simp only[jv];exact rest
 refine Zf hs pq (L:=fun n m k=>rO n m k s (at_:Int) r1 r2 r3) (N:=at_+runT pq (s.drop at_)) ?_ ?_ at_ (by omega) rfl
 ·intro q hlt hp next
  refine kC.lp (fun n m=>by simp only[Df,rN,mB];exact rfl) ?_;have e:decide ((q:Int)<(s.length:Int))=true:=jw (by omega);simp only[e,ju];refine kC.idx hlt (kC.lH (LH _) ?_);rw[Pn,hp,kz (by omega)]
  grind
 ·intro q hle hp hN;refine kC.lp (fun n m=>by simp only[Df,rN,mB];exact rfl) ?_;by_cases hlt:q<s.length
  ·have e:decide ((q:Int)<(s.length:Int))=true:=jw (by omega);have f:=fin q hN hp;simp only[e,ju] at f ⊢;refine kC.idx hlt (kC.lH (LH _) ?_);rw[Pn,hp hlt]
   grind
  ·have e:decide ((q:Int)<(s.length:Int))=false:=jx (by omega);have f:=fin q hN hp
   grind
theorem ahd (s:Str) (hs:s.length<big) (at_:Nat) (j9:List Str) (ha:at_<s.length):
 kC (fun n m=>C0 n m s (at_:Int) (s[at_].toNat:Int) (at_:Int)) (Ww at_ (Pq (s.drop at_))):=by
 have hr:=C5 pq (s.drop at_);rw[gq] at hr;have hd0:s.drop at_=s[at_]::s.drop (at_+1):=drop_cons ha;have hb:s.length<4611686018427387904:=hs
 have fin: ∀q:Nat,q=at_+runT pq (s.drop at_)->(∀hq:q<s.length,pq s[q]=false)->kC (fun n m=>bif decide (6<IntKind.i64.wrap ((q:Int)-(at_:Int))) then some ((0:Int),(at_:Int),(5:Int))
  else
   bif decide (1<IntKind.i64.wrap ((q:Int)-(at_:Int))) then
    bif (s[at_].toNat:Int)==48 then some ((0:Int),(at_:Int),(4:Int))
    else
     bif decide ((q:Int)<(s.length:Int)) then
      (tu s (q:Int)).bind fun x=>
        (ub n (x.toNat:Int)).bind fun x=>
          bif x then some ((0:Int),(q:Int),(4:Int))
          else(tu s (q:Int)).bind fun x=>bif (x.toNat:Int)==39 then some ((0:Int),(q:Int),(4:Int)) else some ((1:Int),(q:Int),(0:Int))
     else some ((1:Int),(q:Int),(0:Int))
   else
    bif decide ((q:Int)<(s.length:Int)) then
     (tu s (q:Int)).bind fun x=>
       (ub n (x.toNat:Int)).bind fun x=>
         bif x then some ((0:Int),(q:Int),(4:Int))
         else(tu s (q:Int)).bind fun x=>bif (x.toNat:Int)==39 then some ((0:Int),(q:Int),(4:Int)) else some ((1:Int),(q:Int),(0:Int))
    else some ((1:Int),(q:Int),(0:Int))) (Ww at_ (Pq (s.drop at_))):=by
  intro q hq hdq
  have hsub:IntKind.i64.wrap ((q:Int)-(at_:Int))=((runT pq (s.drop at_):Nat):Int):=by
   rw[adx (by omega) (by simp only[big];omega)];congr 1;omega
  have e6:decide ((6:Int)<((runT pq (s.drop at_):Nat):Int))=decide (6<runT pq (s.drop at_)):=decide_eq_decide.2 (by omega);have e1:decide ((1:Int)<((runT pq (s.drop at_):Nat):Int))=decide (1<runT pq (s.drop at_)):=decide_eq_decide.2 (by omega)
  have rest:kC (fun n m=>bif decide ((q:Int)<(s.length:Int)) then
        (tu s (q:Int)).bind fun x=>
          (ub n (x.toNat:Int)).bind fun x=>
            bif x then some ((0:Int),(q:Int),(4:Int))
            else(tu s (q:Int)).bind fun x=>bif (x.toNat:Int)==39 then some ((0:Int),(q:Int),(4:Int)) else some ((1:Int),(q:Int),(0:Int))
        else some ((1:Int),(q:Int),(0:Int))) (Ww at_ (match (s.drop at_).drop (runT pq (s.drop at_)) with
  |d::_=>bif yf d||d==39 then(0,runT pq (s.drop at_),4) else(1,runT pq (s.drop at_),0)
  |[]=>(1,runT pq (s.drop at_),0))):=by
   rw[gw,<-hq];by_cases hlt:q<s.length
   ·have e:decide ((q:Int)<(s.length:Int))=true:=jw (by omega);simp only[e,ju,drop_cons hlt];refine kC.idx hlt (kC.lH (VQ _) ?_);cases yf s[q] with
    |true=>simp only[ju,Bool.true_or];rw[show(q:Int)=((at_+runT pq (s.drop at_):Nat):Int) from by rw[hq]];exact kC.pure
    |false=>
     simp only[jv,gr];refine kC.idx hlt ?_;rw[show((s[q].toNat:Int)==39)=(s[q]==39) from s8 _ 39 (by decide)];cases s[q]==39 with
     |true=>simp only[ju];rw[show(q:Int)=((at_+runT pq (s.drop at_):Nat):Int) from by rw[hq]];exact kC.pure
     |false=>simp only[jv];rw[show(q:Int)=((at_+runT pq (s.drop at_):Nat):Int) from by rw[hq]];exact kC.pure
   ·have e:decide ((q:Int)<(s.length:Int))=false:=jx (by omega);simp only[e,jv,gj (show s.length<=q by omega)];rw[show(q:Int)=((at_+runT pq (s.drop at_):Nat):Int) from by rw[hq]];exact kC.pure
  unfold Pq;simp only[hsub,e6,e1];have hh:((s.drop at_).head?==some 48)=(s[at_]==48):=by rw[hd0];rfl
  rw[show((s[at_].toNat:Int)==48)=(s[at_]==48) from s8 _ 48 (by decide),hh];cases decide (6<runT pq (s.drop at_)) with
  |true=>simp only[ju];exact kC.pure
  |false=>
   simp only[jv];cases decide (1<runT pq (s.drop at_)) with
   |false=>grind
   |true=>
    simp only[ju,gh];cases s[at_]==48 with
    |true=>simp only[ju];exact kC.pure
    |false=>simp only[jv];exact rest
 refine Zf hs pq (L:=fun n m k=>C0 n m s (at_:Int) (s[at_].toNat:Int) k) (N:=at_+runT pq (s.drop at_)) ?_ ?_ at_ (by omega) rfl
 ·intro q hlt hp next
  refine kC.lp (fun n m=>by simp only[UK,Gq,mB];exact rfl) ?_;have e:decide ((q:Int)<(s.length:Int))=true:=jw (by omega);simp only[e,ju];refine kC.idx hlt (kC.lH (Vj _) ?_);rw[hp,kz (by omega)]
  grind
 ·intro q hle hp hN;refine kC.lp (fun n m=>by simp only[UK,Gq,mB];exact rfl) ?_;by_cases hlt:q<s.length
  ·have e:decide ((q:Int)<(s.length:Int))=true:=jw (by omega);have f:=fin q hN hp;simp only[e,ju] at f ⊢;refine kC.idx hlt (kC.lH (Vj _) ?_);rw[hp hlt]
   grind
  grind
def whB(c:UInt8):Bool:=c==32||(c==9||(c==13||c==10))
def n10(c:UInt8):Bool:= !(c==10)
theorem anC(c:UInt8):n10 c= !(c==10):=rfl
def kQ:Bool->Str->Nat
 |_,[]=>0
 |true,x::r=>bif x==10 then kQ false r+1 else kQ true r+1
 |false,x::r=>bif whB x then kQ false r+1 else bif x==45&&r.head?==some 45 then kQ true r+1 else 0
theorem Ps(b:Bool):kQ b []=0:=by cases b<;>rfl
theorem wv: ∀(b:Bool)(r:Str),kQ b r<=r.length
 |b,[]=>by rw[Ps];exact gf _
 |true,x::r=>by
  rw[kQ,gz];have h1:=wv false r;have h2:=wv true r
  grind
 |false,x::r=>by
  rw[kQ,gz];have h1:=wv false r;have h2:=wv true r
  grind
theorem XN: ∀r:Str,kQ true r=runT n10 r+kQ false (r.drop (runT n10 r))
 |[]=>rfl
 |x::r=>by
  rw[kQ,qC,anC];cases hx:x==10 with
  |true=>
   grind [kQ,whB]
  |false=>
   simp only[jv,gv,ju];rw[XN r,List.drop_succ_cons];omega
theorem afL{r:Str}(h:r.head?=some 45)(h2:(r.drop 1).head?=some 45):kQ false r=kQ true r:=by
 match r,h with
 |x::t,h=>
  obtain rfl:x=45:=by simpa using h
  have h2:t.head?=some 45:=h2;rw[kQ,kQ,h2];rfl
theorem ady{x:UInt8}{r:Str}(h:whB x=true):kQ false (x::r)=kQ false r+1:=by rw[kQ,h,ju]
theorem skip_none{x:UInt8}{r:Str}(h:whB x=false)(h2:(x==45&&r.head?==some 45)=false):kQ false (x::r)=0:=by grind [kQ]
theorem arK{s:Str}{k:Nat}(h:k<s.length)(h1:k+1<s.length)(e:s[k]=45)(e1:s[k+1]=45):kQ false (s.drop k)=runT n10 (s.drop k)+kQ false (s.drop (k+runT n10 (s.drop k))):=by
 grind [afL,drop_cons,gw,XN]
theorem anD{s:Str}{k:Nat}(h:k<s.length)(e:s[k]=45):0<runT n10 (s.drop k):=by
 grind [drop_cons,qC,n10]
theorem ahe (s:Str) (hs:s.length<big): ∀k:Nat,k<=s.length->kC (fun n m=>vP n m s (k:Int)) ((k+kQ false (s.drop k):Nat):Int):=by
 intro k;induction h:s.length-k using gG generalizing k with
 |ind d ih=>
  intro hk;have hb:s.length<4611686018427387904:=hs;refine kC.lp (fun n m=>by simp only[abm,Im];exact rfl) ?_;rw[kz (by omega)];by_cases hlt:k<s.length
  ·have e1:decide ((k:Int)<(s.length:Int))=true:=jw (by omega);simp only[e1,ju]
   have next:whB s[k]=true->kC (fun n m=>vP n m s ((k+1:Nat):Int)) ((k+kQ false (s.drop k):Nat):Int):=by
    intro hw;rw[drop_cons hlt,ady hw]
    grind
   refine kC.idx hlt ?_;rw[show((s[k].toNat:Int)==32)=(s[k]==32) from s8 _ 32 (by decide)];cases h32:s[k]==32 with
   |true=>grind [whB]
   |false=>
    simp only[jv];refine kC.idx hlt ?_;rw[show((s[k].toNat:Int)==9)=(s[k]==9) from s8 _ 9 (by decide)];cases h9:s[k]==9 with
    |true=>grind [whB]
    |false=>
     simp only[jv];refine kC.idx hlt ?_;rw[show((s[k].toNat:Int)==13)=(s[k]==13) from s8 _ 13 (by decide)];cases h13:s[k]==13 with
     |true=>grind [whB]
     |false=>
      simp only[jv];refine kC.idx hlt ?_;rw[show((s[k].toNat:Int)==10)=(s[k]==10) from s8 _ 10 (by decide)];cases h10:s[k]==10 with
      |true=>grind [whB]
      |false=>
       simp only[jv];have hw:whB s[k]=false:=by grind [whB]
       by_cases h1:k+1<s.length
       ·have e2:decide (((k+1:Nat):Int)<(s.length:Int))=true:=jw (by omega);simp only[e2,ju];refine kC.idx hlt ?_;rw[show((s[k].toNat:Int)==45)=(s[k]==45) from s8 _ 45 (by decide)];have hh:(s.drop (k+1)).head?=some s[k+1]:=by rw[drop_cons h1];rfl
        cases h45:s[k]==45 with
        |false=>
         simp only[jv];rw[drop_cons hlt,skip_none hw (by rw[h45];rfl)];exact kC.pure
        |true=>
         simp only[ju];refine kC.idx h1 ?_;rw[show((s[k+1].toNat:Int)==45)=(s[k+1]==45) from s8 _ 45 (by decide)];cases h46:s[k+1]==45 with
         |false=>
          simp only[jv];rw[drop_cons hlt,skip_none hw (by rw[h45,hh];simpa using h46)];exact kC.pure
         |true=>
          simp only[ju];have hr:=C5 n10 (s.drop k);rw[gq] at hr;have hp:=anD hlt (eq_of_beq h45);rw[arK hlt h1 (eq_of_beq h45) (eq_of_beq h46)];have hj:=ih (s.length-(k+runT n10 (s.drop k))) (by omega) (k+runT n10 (s.drop k)) rfl (by omega);rw[show k+(runT n10 (s.drop k)+kQ false (s.drop (k+runT n10 (s.drop k))))=k+runT n10 (s.drop k)+kQ false (s.drop (k+runT n10 (s.drop k))) from by omega];refine JN.BR (F:=fun n m p=>DX n (vP n m) p s (k:Int)) ?_;refine afJ (s:=s) n10 (L:=fun n m p k=>DX n (vP n m) p s k) (N:=k+runT n10 (s.drop k)) ?_ ?_ k hk rfl
          ·intro q hq hpq nx;refine JN.lp (fun n m p=>by simp only[Rr,DW,mB];exact rfl) ?_;have e:decide ((q:Int)<(s.length:Int))=true:=jw (by omega);simp only[e,ju];refine JN.idx hq ?_;rw[show((s[q].toNat:Int) !=10)= !(s[q]==10) from Pr _ 10 (by decide),kz (by omega)];have hpq:(!(s[q]==10))=true:=hpq;rw[hpq]
           grind
          ·intro q hq hpq hN;refine JN.lp (fun n m p=>by simp only[Rr,DW,mB];exact rfl) ?_;rw[<-hN] at hj ⊢;by_cases hql:q<s.length
           ·have e:decide ((q:Int)<(s.length:Int))=true:=jw (by omega);simp only[e,ju];refine JN.idx hql ?_;have hpq:(!(s[q]==10))=false:=hpq hql
            simp_all [JN.AN]
           ·have e:decide ((q:Int)<(s.length:Int))=false:=jx (by omega);simp only[e,jv];exact JN.AN hj
       ·have e2:decide (((k+1:Nat):Int)<(s.length:Int))=false:=jx (by omega);simp only[e2,jv];have ZG:s.drop (k+1)=[]:=gj (by omega);rw[drop_cons hlt,skip_none hw (by rw[ZG];simp)];exact kC.pure
  ·have e1:decide ((k:Int)<(s.length:Int))=false:=jx (by omega);simp only[e1,jv]
   simp_all [gj,Ps,kC.pure]
theorem adz(s:Str)(hs:s.length<big)(k:Nat)(hk:k<=s.length):Ev (fun n=>Qh n s (k:Int)) ((k+kQ false (s.drop k):Nat):Int):=by
 refine Ev.fn (fun n=>by simp only[Qh,kq,Qg,mB];exact rfl) ?_;exact Ev.AN (F:=fun n m=>vP n m s (k:Int)) (ahe s hs k hk)
theorem ajS: ∀r:Str,(gZ r [10]= -1/\runT n10 r=r.length)\/(gZ r [10]=(runT n10 r:Int)/\runT n10 r<r.length)
 |[]=> .inl ⟨rfl,rfl⟩
 |x::r=>by
  rw[qC];unfold gZ
  have e:([10]:Str).isPrefixOf (x::r)=(x==10):=by
   grind
  rw[e,anC];cases x==10 with
  |true=>exact .inr ⟨rfl,by simp⟩
  |false=>
   have:=ajS r
   grind
theorem auM(r:Str):(Lib.cut r [10]).1.length=runT n10 r:=by
 grind [Lib.cut,ajS]
theorem ahf(s p:Str):Ev (fun n=>BJ n s p) (decide (p.length<=s.length)&&s.take p.length==p):=by
 refine Ev.fn (fun n=>by simp only[BJ,kq,DA,mB];exact rfl) ?_;refine Ev.fn (fun n=>by simp only[tQ,kq,sI,mB];exact rfl) ?_
 grind [Ev.pure]
theorem adA(k:Nat)(c:UInt8):um (k+40) [32,9,13,10] (IntKind.i32.wrap (c.toNat:Int))=some (whB c):=by
 have:=Q3 (p:=fun c=>decide (um (k+40) [32,9,13,10] (IntKind.i32.wrap (c.toNat:Int))=some (whB c))) (jE) c;exact jy this
abbrev LI:Nat:=4294967281
theorem abK(c:UInt8):Ev (fun n=>um n [32,9,13,10] (IntKind.i32.wrap (c.toNat:Int))) (whB c):=by
 refine⟨40,fun n hn=> ?_⟩;obtain⟨k,rfl⟩: ∃k,n=k+40:=⟨n-40,by omega⟩;exact adA k c
theorem axa(r:Str)(h:r.length<LI):Ev (fun n=>strings_Cut n r [10]) (Lib.cut r [10]):=by
 refine⟨1,fun n hn=> ?_⟩;obtain⟨k,rfl⟩: ∃k,n=k+1:=⟨n-1,by omega⟩;show(bif decide (r.length<4294967281) then some (Lib.cut r [10]) else none)=_;rw[jw h];rfl
theorem aaR(s sub:Str)(h:s.length<LI):Ev (fun n=>strings_Contains n s sub) (gC s sub):=by
 refine⟨1,fun n hn=> ?_⟩;obtain⟨k,rfl⟩: ∃k,n=k+1:=⟨n-1,by omega⟩;show(bif decide (s.length<4294967281) then some (gC s sub) else none)=_;rw[jw h];rfl
theorem apb{s:Str}{k:Nat}(h:k<s.length):tu (s.drop k) 0=some s[k]:=by
 rw[drop_cons h];rfl
theorem arL{s:Str}{k:Nat}:(decide (([45,45]:Str).length<=(s.drop k).length)&&(s.drop k).take ([45,45]:Str).length==[45,45])=((s.drop k).head?==some 45&&(s.drop (k+1)).head?==some 45):=by
 rw[show s.drop (k+1)=(s.drop k).drop 1 from by rw[gw]]
 match s.drop k with
 |[]=>rfl
 |[a]=>simp
 |a::b::t=>
  rw[gF];simp
theorem apc(s:Str)(hs:s.length<LI)(r1 r2 r3:List (Str×Bool)): ∀k:Nat,k<=s.length->
 kC (fun n m=>wE n m s (k:Int) r1 r2 r3) (scn s ((k+kQ false (s.drop k):Nat):Int) r1 r2 r3,()):=by
 intro k;induction h:s.length-k using gG generalizing k with
 |ind d ih=>
  intro hk;have hb:s.length<4294967281:=hs;refine kC.lp (fun n m=>by simp only[OY,wD,mB];exact rfl) ?_;by_cases hlt:k<s.length
  ·have e1:decide ((k:Int)<(s.length:Int))=true:=jw (by omega);have e2:decide ((0:Int)<=(k:Int)/\(k:Int)<=(s.length:Int)/\(s.length:Int)<=(s.length:Int))=true:=jw (by omega);simp only[e1,e2,ju,gN,gy,apb hlt,gu];refine kC.lH (abK _) ?_;cases hw:whB s[k] with
   |true=>
    simp only[ju];rw[kz (by omega),drop_cons hlt,ady hw]
    grind
   |false=>
    simp only[jv];refine kC.lH (ahf _ _) ?_;rw[arL];cases hc:(s.drop k).head?==some 45&&(s.drop (k+1)).head?==some 45 with
    |false=>
     simp only[jv]
     have:kQ false (s.drop k)=0:=by
      grind [drop_cons,skip_none]
     rw[this];exact kC.pure
    |true=>
     simp only[ju];simp only[gp,jB] at hc;have hr:=C5 n10 (s.drop k);rw[gq] at hr;have e45:s[k]=45:=by simp_all
     have hp:=anD hlt e45;refine kC.lH (axa _ (by grind)) ?_;rw[auM,afL hc.1 (by rw[gw];exact hc.2),XN,gw];rw[wrap_small (by omega) (by omega),<-gQ];have:=ih (s.length-(k+runT n10 (s.drop k))) (by omega) (k+runT n10 (s.drop k)) rfl (by omega)
     grind
  ·have e1:decide ((k:Int)<(s.length:Int))=false:=jx (by omega);simp only[e1,jv];rw[gj (by omega),Ps];exact kC.pure
theorem ajT(s:Str)(hs:s.length<LI)(r1 r2 r3:List (Str×Bool))(k:Nat)(hk:k<=s.length):
 Ev (fun n=>tT n s (k:Int) r1 r2 r3) (scn s ((k+kQ false (s.drop k):Nat):Int) r1 r2 r3,()):=by
 refine Ev.fn (fun n=>by simp only[tT,kq,Ck,mB];exact rfl) ?_
 grind [Ev.AN,apc]
def uA(r:Str):Nat->List Str->Nat
 |b,[]=>b
 |b,y::l=>uA r (bif decide (b<y.length)&&r.take y.length==y then y.length else b) l
theorem CK(r:Str): ∀(l:List Str)(b:Nat),(uA r b l=b\/(b<uA r b l/\uA r b l<=r.length/\r.take (uA r b l)∈l))/\b<=uA r b l/\ ∀y∈l,r.take y.length=y->y.length<=uA r b l
 |[],b=>⟨.inl rfl,gf _,fun y hy=>by cases hy⟩
 |y::l,b=>by
  rw[uA];cases hc:decide (b<y.length)&&r.take y.length==y with
  |true=>
   simp only[ju];simp only[gp,jA,jB] at hc;obtain⟨h1,h2,h3⟩:=CK r l y.length
   grind
  |false=>
   simp only[jv];obtain⟨h1,h2,h3⟩:=CK r l b
   grind
theorem adB(r:Str)(l:List Str):uA r 0 l<=r.length:=by
 grind [CK]
theorem amx(s:Str)(hs:s.length<LI)(k:Nat)(hk:k<=s.length)(l:List Str)(hl:l.length<LI)(hy: ∀y∈l,y.length<LI):
 Ev (fun n=>DY n s (k:Int) l) ((uA (s.drop k) 0 l:Nat):Int):=by
 refine Ev.fn (fun n=>by simp only[DY,kq,JC,mB];exact rfl) ?_;simp only[LI] at hs hl hy
 have key: ∀d j b:Nat,j+d=l.length->b<4294967281->kC (fun n m=>yV n m s (k:Int) l (b:Int) (j:Int)) ((uA (s.drop k) b (l.drop j):Nat):Int):=by
  intro d;induction d with
  |zero=>
   intro j b hj hb;refine kC.lp (fun n m=>by simp only[KY,yU,mB];exact rfl) ?_
   grind [uA,kC.pure]
  |succ d ih=>
   intro j b hj hb;have hlt:j<l.length:=by omega
   have hyl:=hy l[j] (gx hlt);refine kC.lp (fun n m=>by simp only[KY,yU,mB];exact rfl) ?_;have:decide ((j:Int)<(l.length:Int))=true:=jw (by omega);simp only[this,ju];refine kC.idx hlt ?_;rw[gk hlt,uA,kz (by omega),wrap_small (n:=(k:Int)+((l[j].length:Nat):Int)) (by omega) (by omega),<-gQ];by_cases hbl:b<l[j].length
   ·have e1:decide ((b:Int)<((l[j]).length:Int))=true:=jw (by omega);have e1':decide (b<l[j].length)=true:=jw hbl;simp only[e1,e1',ju,gh];by_cases hkl:k+l[j].length<=s.length
    ·have e2:decide (((k+l[j].length:Nat):Int)<=(s.length:Int))=true:=jw (by omega);have e3:decide ((0:Int)<=(k:Int)/\(k:Int)<=((k+l[j].length:Nat):Int)/\((k+l[j].length:Nat):Int)<=(s.length:Int))=true:=jw (by omega);simp only[e2,e3,ju,gy];refine kC.idx hlt ?_
     grind
    grind
   grind
 exact Ev.AN (F:=fun n m=>yV n m s (k:Int) l 0 0) (key l.length 0 0 (by omega) (by omega))
theorem apd(s:Str)(hs:s.length<LI)(k:Nat)(hk:k<=s.length)(r1 r2 r3:List (Str×Bool))(l:List Str)
 (h3: ∀y,(mz y r3).getD false=l.contains y) (h8: ∀y∈l,(s.drop k).take y.length=y->y.length<=8):
 Ev (fun n=>xc n s (k:Int) r1 r2 r3) (pk (scn s k r1 r2 r3) (bif uA (s.drop k) 0 l==0 then(0,(k:Int),4) else(2,((k+uA (s.drop k) 0 l:Nat):Int),0))):=by
 refine Ev.fn (fun n=>by simp only[xc,kq,Aj,mB];exact rfl) ?_;simp only[LI] at hs;obtain⟨q1,q2,q3⟩:=CK (s.drop k) l 0;generalize hN:uA (s.drop k) 0 l=N at*
 have key: ∀v:Nat,N<=v->k+v<=s.length->kC (fun n m=>uI n m (v:Int) s (k:Int) r1 r2 r3) (pk (scn s k r1 r2 r3) (bif N==0 then(0,(k:Int),4) else(2,((k+N:Nat):Int),0))):=by
  intro v;induction v with
  |zero=>
   intro hv hkv;obtain rfl:N=0:=by omega
   refine kC.lp (fun n m=>by simp only[C7,rK,mB];exact rfl) ?_;exact kC.pure
  |succ v ih=>
   intro hv hkv;refine kC.lp (fun n m=>by simp only[C7,rK,mB];exact rfl) ?_;have e1:decide ((0:Int)<((v+1:Nat):Int))=true:=jw (by omega);rw[wrap_small (n:=(k:Int)+((v+1:Nat):Int)) (by omega) (by omega),<-gQ];have e2:decide ((0:Int)<=(k:Int)/\(k:Int)<=((k+(v+1):Nat):Int)/\((k+(v+1):Nat):Int)<=(s.length:Int))=true:=jw (by omega);simp only[e1,e2,ju,gy,h3];rw[show gO k (List.take (k+(v+1)) s)=(s.drop k).take (v+1) from by simp_all [List.drop_take]];have hlen:((s.drop k).take (v+1)).length=v+1:=by grind
   cases hc:l.contains ((s.drop k).take (v+1)) with
   |true=>
    simp only[ju];have hm:(s.drop k).take (v+1)∈l:=by simpa using hc
    have:=q3 _ hm (by rw[hlen]);rw[hlen] at this;obtain rfl:N=v+1:=by omega
    exact kC.pure
   |false=>
    grind [wrap_small]
 rw[wrap_small (by omega) (by omega),show(s.length:Int)-(k:Int)=((s.length-k:Nat):Int) from by omega]
 have hN8:N<=8:=by
  grind
 have hNk:N<=s.length-k:=by
  grind
 by_cases h:((s.length-k:Nat):Int)<8
 ·simp only[if_pos h]
  grind [Ev.AN]
 ·simp only[if_neg h]
  grind [Ev.AN]
set_option maxRecDepth 100000
def qb(c:UInt8):Bool:= !(c==34)&& !(c==10)
theorem axb(c:UInt8):qb c=(!(c==34)&& !(c==10)):=rfl
def ajU(s:Str):Int:=if runT qb s<s.length then(runT qb s:Int) else-1
theorem adC: ∀s:Str,ia s [34,10]=ajU s
 |[]=>rfl
 |x::s=>by
  unfold ia ajU;rw[qC,axb,adC s]
  grind [ajU]
theorem ahg{s:Str}{i:Nat}(h:i<s.length):(sb s).get! i=s[i]:=by
 show(s.toArray)[i]! =s[i];simp [h]
theorem amy{s:Str}{p:Nat}(h:p<s.length)(hb:s[p].toNat<128):gM (sb s) p=(s[p].toNat,1):=by
 grind [gM,ahg]
theorem KA{s:Str}{i:Nat}(h:(decide (i<(sb s).size)&&((sb s).get! i).toNat / 64==2)=true): ∃hi:i<s.length,128<=s[i].toNat:=by
 grind [Mm,ahg]
def arM(s:Str)(p w:Nat):Prop:=1<=w/\ ∀j,j<w-> ∃h:p+j<s.length,128<=s[p+j].toNat
theorem decode_high{s:Str}{p:Nat}(h:p<s.length)(hb:128<=s[p].toNat):128<=(gM (sb s) p).1/\arM s p (gM (sb s) p).2:=by
 have h0: ∀j,j<1-> ∃h:p+j<s.length,128<=s[p+j].toNat:=fun j hj=>by
  grind
 have one:arM s p 1:=⟨gf _,h0⟩;unfold gM;simp only[gX,ahg h];rw[if_neg (by omega)];split
 ·rename_i h1;rw[gp] at h1;have c1:=KA h1.2
  have two:arM s p 2:=⟨by omega,fun j hj=>by
   grind⟩
  split
  ·rename_i h2;exact⟨h2,two⟩
  ·exact⟨by decide,one⟩
 ·split
  ·rename_i _ h1;rw[gp,gp] at h1;have c1:=KA h1.1.2;have c2:=KA h1.2
   have three:arM s p 3:=⟨by omega,fun j hj=>by
    grind⟩
   split
   ·grind
   ·exact⟨by decide,one⟩
  ·split
   ·rename_i _ _ h1;rw[gp,gp,gp] at h1;have c1:=KA h1.1.1.2;have c2:=KA h1.1.2;have c3:=KA h1.2
    have four:arM s p 4:=⟨by omega,fun j hj=>by
     grind⟩
    split
    ·grind
    ·exact⟨by decide,one⟩
   ·exact⟨by decide,one⟩
theorem amz{c:Nat}(h:128<=c): ∃l b,aqZ (c:Int)=l++[b]/\128<=b.toNat/\1<=l.length/\l.length<=3:=by
 unfold aqZ;simp only[Utf8.encode];generalize hd:(if Utf8.valid (c:Int)=true then(c:Int).toNat else Utf8.runeError)=d
 have hd':128<=d:=by
  grind [Utf8.runeError]
 have hb:128<=(UInt8.ofNat (128+d % 64)).toNat:=by
  rw[UInt8.toNat_ofNat'];omega
 rw[if_neg (by omega)];split
 ·exact⟨[_],_,rfl,hb,by simp,by simp⟩
 ·split
  ·exact⟨[_,_],_,rfl,hb,by simp,by simp⟩
  ·exact⟨[_,_,_],_,rfl,hb,by simp,by simp⟩
theorem aeJ(k:Nat)(x:Int):strings_IndexByte (k+3) [] x=some (-1):=jE
theorem aeK(k:Nat):mI (k+8) [34,10] 65533=some (-1):=jE
theorem aeL(k:Nat)(c:UInt8):((mI (k+8) [34,10] (c.toNat:Int)).map fun x=>decide (0<=x))=some (!qb c)\/128<=c.toNat:=by
 have:=Q3 (p:=fun c=>decide (((mI (k+8) [34,10] (c.toNat:Int)).map fun x=>decide (0<=x))=some (!qb c))||decide (128<=c.toNat)) (jE) c
 grind
theorem abL(c:UInt8)(hc:c.toNat<128):li (fun n=>mI n [34,10] (c.toNat:Int)) (fun x=>decide (0<=x)= !qb c):=by
 have key: ∀k,((mI (k+8) [34,10] (c.toNat:Int)).map fun x=>decide (0<=x))=some (!qb c):=fun k=>(aeL k c).resolve_right (by omega)
 have e: ∀k,mI (k+8) [34,10] (c.toNat:Int)=mI 8 [34,10] (c.toNat:Int):=by
  intro k;have:=Q3 (p:=fun c=>decide (mI (k+8) [34,10] (c.toNat:Int)=mI 8 [34,10] (c.toNat:Int))||decide (128<=c.toNat)) (jE) c
  grind
 have k0:=key 0;rw[Option.map_eq_some_iff] at k0;obtain⟨x,hx,hd⟩:=k0;refine⟨x,hd,8,fun n hn=> ?_⟩;obtain⟨k,rfl⟩: ∃k,n=k+8:=⟨n-8,by omega⟩
 grind
theorem adD{c:Nat}(hc:128<=c):Ev (fun n=>mI n [34,10] (c:Int)) (-1):=by
 by_cases h3:c=65533
 ·subst h3;refine⟨8,fun n hn=> ?_⟩;obtain⟨k,rfl⟩: ∃k,n=k+8:=⟨n-8,by omega⟩;exact aeK k
 ·refine Ev.fn (fun n=>by simp only[mI,kq,Dz,mB];exact rfl) ?_;have e1:decide ((0:Int)<=(c:Int))=true:=jw (by omega);have e2:decide ((c:Int)<128)=false:=jx (by omega);have e3:((c:Int)==65533)=false:=by rw[jC];omega
  simp only[e1,e2,e3,ju,jv]
  have hv: ∃b,Ev (fun n=>vp n (c:Int)) b:=by
   refine⟨bif decide ((c:Int)<55296) then true else bif decide (57343<(c:Int)) then decide ((c:Int)<=1114111) else false,?_⟩;refine Ev.fn (fun n=>by simp only[vp,kq,xJ,mB];exact rfl) ?_
   grind [Ev.pure]
  obtain⟨b,hv⟩:=hv;refine Ev.bind hv ?_;cases b with
  |false=>exact Ev.pure
  |true=>
   simp only[ju];obtain⟨l,b,hl,hb,h1,h4⟩:=amz hc;rw[hl];have hlen:(l++[b]).length=l.length+1:=by simp
   rw[hlen,wrap_small (by omega) (by omega),show((l.length+1:Nat):Int)-1=(l.length:Int) from by omega];refine Ev.AN (F:=fun n m=>xh n m [34,10] (l++[b]) (l.length:Int) (l.length:Int)) ?_;refine kC.lp (fun n m=>by simp only[Qn,xg];exact rfl) ?_;by_cases hl1:l.length=1
   ·rw[hl1]
    have mH:tu (l++[b]) ((1:Nat):Int)=some b:=by
     grind [n8]
    have hne:(((10:UInt8).toNat:Int) !=(b.toNat:Int))=true:=by
     grind
    have aAD:tu (l++[b]) (1:Int)=some b:=mH;have i1:tu ([34,10]:Str) ((1:Nat):Int)=some 10:=rfl;have hz:decide (((1:Nat):Int)<(([34,10]:Str).length:Int))=true:=rfl;simp only[hz,ju,i1,mH,gu,hne];have hw:IntKind.i64.wrap (((1:Nat):Int)+1)=((2:Nat):Int):=kz (by omega);have hd2:decide ((0:Int)<=((2:Nat):Int)/\((2:Nat):Int)<=(([34,10]:Str).length:Int)/\(([34,10]:Str).length:Int)<=(([34,10]:Str).length:Int))=true:=rfl;simp only[hw,hd2,ju];have adE:gO ((2:Nat):Int).toNat (List.take ([34,10]:Str).length [34,10])=[]:=rfl
    have hs:Ev (fun n=>strings_IndexByte n [] (b.toNat:Int)) (-1):=by
     refine⟨3,fun n hn=> ?_⟩;obtain⟨k,rfl⟩: ∃k,n=k+3:=⟨n-3,by omega⟩;exact aeJ k _
    exact kC.lH (x:= -1) hs kC.pure
   grind [kC.pure]
theorem Pt{q:UInt8->Bool}: ∀{r:Str}{p:Nat},p<=runT q r-> ∀h:p<r.length,(q r[p]=true->p+1<=runT q r)/\(q r[p]=false->runT q r=p)
 |[],p,_,h=>absurd h (Nat.not_lt_zero _)
 |x::r,0,hp,h=>by
  grind [qC]
 |x::r,p+1,hp,h=>by
  rw[qC] at hp ⊢;cases hx:q x with
  |false=>rw[hx] at hp;simp at hp
  |true=>
   rw[hx] at hp;simp only[ju] at hp ⊢;have:=Pt (q:=q) (r:=r) (p:=p) (by omega) (by simpa using h)
   grind
theorem auN{c:UInt8}(h:128<=c.toNat):qb c=true:=by
 have:=Q3 (p:=fun c=>qb c||decide (c.toNat<128)) (jE) c
 grind
theorem aeM(s:Str): ∀p:Nat,p<=runT qb s->kC (fun n m=>vf n m [34,10] s p) (ajU s):=by
 intro p;induction h:s.length-p using gG generalizing p with
 |ind d ih=>
  intro hp;have hr:=C5 qb s;refine kC.lp (fun n m=>by simp only[R6,yu,mB];exact rfl) ?_;by_cases hlt:p<s.length
  ·have e:decide (p<s.length)=true:=jw hlt;simp only[e,ju];have st:=Pt hp hlt;rcases Nat.lt_or_ge s[p].toNat 128 with hb|hb
   ·rw[amy hlt hb];obtain⟨x,hx,PJ⟩:=abL s[p] hb;refine kC.lH PJ ?_;rw[hx];cases hq:qb s[p] with
    |true=>
     grind
    |false=>
     grind [ajU,kC.pure]
   ·obtain⟨h1,hw,h2⟩:=decode_high hlt hb;refine kC.lH (adD h1) ?_;have e0:decide ((0:Int)<= -1)=false:=rfl;simp only[e0,jv]
    have run: ∀j,j<=(gM (sb s) p).2->p+j<=runT qb s:=by
     intro j;induction j with
     |zero=>intro _;exact hp
     |succ j ihj=>
      grind [Pt,auN]
    have:=run _ (gf _)
    grind
  grind [ajU,kC.pure]
theorem arN(t:Str)(ht:t.length<LI):Ev (fun n=>(uG n t [34,10]).or (strings_IndexAny n t [34,10])) (ajU t):=by
 simp only[LI] at ht;by_cases h8:8<t.length
 ·refine⟨1,fun n hn=> ?_⟩;obtain⟨k,rfl⟩: ∃k,n=k+1:=⟨n-1,by omega⟩
  grind [uG,adC]
 ·have hL: ∀n,uG n t [34,10]=none:=by
   intro n;cases n with
   |zero=>rfl
   |succ k=>
    show(bif decide (2<=([34,10]:Str).length)&&(decide (8<t.length)&&(decide (t.length<4294967281)&&(decide (([34,10]:Str).length<4294967281)&&([34,10]:Str).all (fun b=>decide (b.toNat<128))))) then some (ia t [34,10]) else none)=_;rw[jx h8];rfl
  simp only[hL,Option.none_or];refine Ev.fn (fun n=>by simp only[strings_IndexAny,kq,EH,mB];exact rfl) ?_;have e0:(([34,10]:Str)==[])=false:=rfl;have e1:((([34,10]:Str).length:Int)==1)=false:=rfl;simp only[e0,e1,jv]
  have hs:Ev (fun n=>strings_shouldUseASCIISet n (t.length:Int)) false:=by
   refine Ev.fn (fun n=>by simp only[strings_shouldUseASCIISet,kq,vq,mB];exact rfl) ?_
   grind [Ev.pure]
  refine Ev.bind hs ?_;simp only[jv];exact Ev.AN (F:=fun n m=>vf n m [34,10] t 0) (aeM t 0 (gi _))
def Jp(r:Str):Int×Nat×Int:=
 match (r.drop 1).drop (runT qb (r.drop 1)) with
 |d::_=>bif d==34 then(2,runT qb (r.drop 1)+2,0) else(0,0,4)
 |[]=>(0,0,4)
theorem ajV{c:UInt8}(h:qb c=false):(c==10)= !(c==34):=by
 grind [qb]
theorem ape(s:Str)(hs:s.length<LI)(k:Nat)(hk:k<s.length)(r1 r2 r3:List (Str×Bool)):
 Ev (fun n=>xl n s (k:Int) r1 r2 r3) (pk (scn s k r1 r2 r3) (Ww k (Jp (s.drop k)))):=by
 refine Ev.fn (fun n=>by simp only[xl,kq,Ay,mB];exact rfl) ?_;simp only[LI] at hs;rw[kz (by omega)];have e:decide ((0:Int)<=((k+1:Nat):Int)/\((k+1:Nat):Int)<=(s.length:Int)/\(s.length:Int)<=(s.length:Int))=true:=jw (by omega);simp only[e,ju,gN,gy];refine Ev.bind (arN _ (by grind)) ?_;unfold Jp ajU;rw[show(s.drop k).drop 1=s.drop (k+1) from by rw[gw]];have hr:=C5 qb (s.drop (k+1));rw[gq] at hr;generalize hm:runT qb (s.drop (k+1))=m at*;rw[gw];by_cases h:m<(s.drop (k+1)).length
 ·rw[if_pos h];rw[gq] at h;have hl:k+1+m<s.length:=by omega
  have e1:decide ((m:Int)<0)=false:=jx (by omega);simp only[e1,jv];rw[wrap_small (n:=((k+1:Nat):Int)+(m:Int)) (by omega) (by omega),<-gQ,n8 hl,gu,drop_cons hl]
  have hq:qb s[k+1+m]=false:=by
   have:=Pt (q:=qb) (r:=s.drop (k+1)) (p:=m) (by omega) (by rw[gq];omega)
   grind
  rw[show((s[k+1+m].toNat:Int)==10)=(s[k+1+m]==10) from s8 _ 10 (by decide),ajV hq];cases h34:s[k+1+m]==34 with
  |false=>simp only[h34,gv,ju,jv];exact Ev.pure
  |true=>
   simp only[h34,gJ,ju,jv];rw[wrap_small (n:=(k:Int)+(m:Int)) (by omega) (by omega),wrap_small (by omega) (by omega),show(k:Int)+(m:Int)+2=((k+(m+2):Nat):Int) from by omega];exact Ev.pure
 ·rw[if_neg h];rw[gq] at h;rw[gj (show s.length<=k+1+m by omega)];exact Ev.pure
theorem ahh(s:Str)(hs:s.length<LI)(k:Nat)(hk:k<s.length):
 kC (fun n m=>Gs n m s (k:Int) ((k+1:Nat):Int)) (Ww k (Jp (s.drop k))):=by
 simp only[LI] at hs;unfold Jp;rw[show(s.drop k).drop 1=s.drop (k+1) from by rw[gw]];have hr:=C5 qb (s.drop (k+1));rw[gq] at hr;generalize hm:runT qb (s.drop (k+1))=m at*;rw[gw];refine Zf (s:=s) (by simp only[big];omega) qb (L:=fun n m q=>Gs n m s (k:Int) q) (N:=k+1+m) ?_ ?_ (k+1) (by omega) (by rw[hm])
 ·intro q hq hp next
  refine kC.lp (fun n m=>by simp only[UL,Gr,mB];exact rfl) ?_;have e:decide ((q:Int)<(s.length:Int))=true:=jw (by omega);simp only[e,ju];refine kC.idx hq ?_;rw[show((s[q].toNat:Int) !=34)= !(s[q]==34) from Pr _ 34 (by decide)];unfold qb at hp;rw[gp] at hp;rw[hp.1];simp only[ju];refine kC.idx hq ?_;rw[show((s[q].toNat:Int) !=10)= !(s[q]==10) from Pr _ 10 (by decide),hp.2,kz (by omega)]
  grind
 ·intro q hle hp hN;refine kC.lp (fun n m=>by simp only[UL,Gr,mB];exact rfl) ?_
  have fin: ∀hq:q<s.length,kC (fun _ _=>bif (q:Int)==(s.length:Int) then some ((0:Int),(k:Int),(4:Int)) else(tu s (q:Int)).bind fun x=>bif (x.toNat:Int) !=34 then some ((0:Int),(k:Int),(4:Int)) else some ((2:Int),IntKind.i64.wrap ((q:Int)+1),(0:Int)))
   (Ww k (match s.drop (k+1+m) with|d::_=>bif d==34 then(2,m+2,0) else(0,0,4)|[]=>(0,0,4))):=by
   intro hq;have e:((q:Int)==(s.length:Int))=false:=by rw[jC];omega
   simp only[e,jv];refine kC.idx hq ?_;rw[<-hN,drop_cons hq,kz (by omega),show((s[q].toNat:Int) !=34)= !(s[q]==34) from Pr _ 34 (by decide)];cases h34:s[q]==34 with
   |false=>simp only[h34,gv,ju,jv];exact kC.pure
   |true=>
    simp only[h34,gJ,ju,jv];rw[show((q+1:Nat):Int)=((k+(m+2):Nat):Int) from by omega];exact kC.pure
  by_cases hlt:q<s.length
  ·have e:decide ((q:Int)<(s.length:Int))=true:=jw (by omega);have hp:=hp hlt;simp only[e,ju];refine kC.idx hlt ?_;rw[show((s[q].toNat:Int) !=34)= !(s[q]==34) from Pr _ 34 (by decide)];cases h34:s[q]==34 with
   |true=>grind
   |false=>
    simp only[gv,ju];refine kC.idx hlt ?_;rw[show((s[q].toNat:Int) !=10)= !(s[q]==10) from Pr _ 10 (by decide),ajV hp,h34]
    grind
  ·have e:decide ((q:Int)<(s.length:Int))=false:=jx (by omega);have e2:((q:Int)==(s.length:Int))=true:=by rw[jB];omega
   simp only[e,e2,ju,jv];rw[gj (show s.length<=k+1+m by omega)];exact kC.pure
def RX(c:UInt8):Bool:=anB.contains c
theorem auO(c:UInt8):Ev (fun n=>P3 n (c.toNat:Int)) (RX c):=by
 refine⟨25,fun n hn=> ?_⟩;obtain⟨k,rfl⟩: ∃k,n=k+25:=⟨n-25,by omega⟩;have:=Q3 (p:=fun c=>decide (P3 (k+25) (c.toNat:Int)=some (RX c))) (jE) c;exact jy this
theorem aeN(c:UInt8):gC anB [c]=RX c:=by
 have:=Q3 (p:=fun c=>decide (gC anB [c]=RX c)) (jE) c;exact jy this
def dd:Str->Bool
 |[]=>false
 |x::r=>(x==45&&r.head?==some 45)||dd r
theorem aaS: ∀s:Str,gC s [45,45]=dd s
 |[]=>rfl
 |x::r=>by
  have ih:=aaS r;have hg:=Lib.index_ge r [45,45];unfold gC at ih ⊢;unfold gZ dd
  have hp:([45,45]:List UInt8).isPrefixOf (x::r)=(x==45&&r.head?==some 45):=by
   cases r with
   |nil=>simp [List.isPrefixOf]
   |cons y t=>
    grind
  grind
def CL(s:Str):Bool:=
 match s with
 |[]=>false
 |c::t=>bif yf c then(c::t).all L9&&(!((c::t)==[95])&& !kws.contains (c::t)) else(c::t).all RX&&(!dd (c::t)&&(decide ((c::t).length<=8)&&(!oV.contains (c::t)||(c::t)==[43])))
theorem adF{p:UInt8->Bool}{s:Str}{k:Nat}(h:k<s.length):(s.drop k).all p=(p s[k]&&(s.drop (k+1)).all p):=by
 rw[drop_cons h,List.all_cons]
theorem ajW(p:UInt8->Bool): ∀r:Str,(runT p r==r.length)=r.all p
 |[]=>rfl
 |x::r=>by
  rw[qC,List.all_cons,gz,<-ajW p r]
  grind
theorem auP(s:Str):kC (fun n m=>wZ n m s oV ((oV.length:Nat):Int) 0) (!oV.contains s||s==[43]):=by
 have key: ∀d k:Nat,k+d=oV.length->kC (fun n m=>wZ n m s oV ((oV.length:Nat):Int) (k:Int)) (!(oV.drop k).contains s||s==[43]):=by
  intro d;have hle:oV.length=21:=rfl;induction d with
  |zero=>
   intro k hk;refine kC.lp (fun n m=>by simp only[MF,A6,mB];exact rfl) ?_
   grind [kC.pure]
  |succ d ih=>
   intro k hk;have hlt:k<oV.length:=by omega
   refine kC.lp (fun n m=>by simp only[MF,A6,mB];exact rfl) ?_;have:decide ((k:Int)<((oV.length:Nat):Int))=true:=jw (by omega);simp only[this,ju];refine kC.idx hlt ?_;rw[gk hlt,gD,show(s==oV[k])=(oV[k]==s) from gF.2 ⟨fun h=>by simpa using (jB.1 h).symm,fun h=>by simpa using (jB.1 h).symm⟩];cases oV[k]==s with
   |true=>grind [kC.pure]
   |false=>
    grind [kz]
 exact key oV.length 0 (by omega)
theorem amA(s:Str):kC (fun n m=>wY n m s oV 0) (decide (s.length<=8)&&(!oV.contains s||s==[43])):=by
 have h8:decide ((s.length:Int)<=8)=decide (s.length<=8):=decide_eq_decide.2 (by omega)
 have key: ∀d k:Nat,k+d=oV.length->kC (fun n m=>wY n m s oV (k:Int)) (decide (s.length<=8)&&(!(oV.drop k).contains s||s==[43])):=by
  intro d;have hle:oV.length=21:=rfl;induction d with
  |zero=>
   intro k hk;refine kC.lp (fun n m=>by simp only[MC,A2,mB];exact rfl) ?_
   grind [kC.pure]
  |succ d ih=>
   intro k hk;have hlt:k<oV.length:=by omega
   refine kC.lp (fun n m=>by simp only[MC,A2,mB];exact rfl) ?_;have:decide ((k:Int)<((oV.length:Nat):Int))=true:=jw (by omega);simp only[this,ju];refine kC.idx hlt ?_;rw[gk hlt,gD,show(s==oV[k])=(oV[k]==s) from gF.2 ⟨fun h=>by simpa using (jB.1 h).symm,fun h=>by simpa using (jB.1 h).symm⟩];rw[kz (by omega)];have next:=ih (k+1) (by omega)
   cases oV[k]==s with
   |true=>
    grind [kC.pure]
   |false=>
    grind
 exact key oV.length 0 (by omega)
theorem afM(s:Str)(hs:s.length<LI):Ev (fun n=>Gn n s) (CL s):=by
 refine Ev.fn (fun n=>by simp only[Gn,kq,Lr,mB];exact rfl) ?_;simp only[LI] at hs
 match s with
 |[]=>exact Ev.pure
 |c::t=>
  simp only[show((c::t)==([]:Str))=false from rfl,jv,show tu (c::t) 0=some c from rfl,gu];refine Ev.bind (LH c) ?_;rw[Pm,CL];have hs':(c::t).length<4294967281:=hs;generalize hst:c::t=s at*;cases yf c with
  |true=>
   simp only[ju]
   have key: ∀d k:Nat,k+d=s.length->kC (fun n m=>Ba n m s (s.length:Int) (k:Int)) ((s.drop k).all L9&&(!(s==[95])&& !kws.contains s)):=by
    intro d;induction d with
    |zero=>
     intro k hk;refine kC.lp (fun n m=>by simp only[MH,A9,mB];exact rfl) ?_;have:decide ((k:Int)<(s.length:Int))=false:=jx (by omega);simp only[this,jv];rw[gj (by omega)];simp only[gR,gh];cases s==[95] with
     |true=>exact kC.pure
     |false=>
      simp only[jv,gv,gh];exact kC.lH (amv s) kC.pure
    |succ d ih=>
     intro k hk;have hlt:k<s.length:=by omega
     refine kC.lp (fun n m=>by simp only[MH,A9,mB];exact rfl) ?_;have:decide ((k:Int)<(s.length:Int))=true:=jw (by omega);simp only[this,ju];refine kC.idx hlt (kC.lH (VR _) ?_);rw[adF hlt];cases L9 s[k] with
     |false=>grind [kC.pure]
     |true=>
      simp only[ju,gh];rw[kz (by omega)];exact ih (k+1) (by omega)
   exact Ev.AN (F:=fun n m=>Ba n m s (s.length:Int) 0) (key s.length 0 (by omega))
  |false=>
   simp only[jv]
   have key: ∀d k:Nat,k+d=s.length->kC (fun n m=>A8 n m s (s.length:Int) (k:Int)) ((s.drop k).all RX&&(!dd s&&(decide (s.length<=8)&&(!oV.contains s||s==[43])))):=by
    intro d;induction d with
    |zero=>
     intro k hk;refine kC.lp (fun n m=>by simp only[MG,A7,mB];exact rfl) ?_;have:decide ((k:Int)<(s.length:Int))=false:=jx (by omega);simp only[this,jv];rw[gj (by omega)];simp only[gR,gh];refine kC.lH (aaR s [45,45] hs') ?_;rw[aaS];cases dd s with
     |true=>grind [kC.pure]
     |false=>
      simp only[jv,gv,gh];by_cases h8:s.length<=8
      ·have e1:decide ((8:Int)<(s.length:Int))=false:=jx (by omega);have e2:decide (s.length<=8)=true:=jw h8;simp only[e1,e2,jv,gh];exact kC.lH afI (kC.Xi (Ev.AN (F:=fun n m=>wZ n m s oV ((oV.length:Nat):Int) 0) (auP s)))
      grind [kC.pure]
    |succ d ih=>
     intro k hk;have hlt:k<s.length:=by omega
     refine kC.lp (fun n m=>by simp only[MG,A7,mB];exact rfl) ?_;rw[kz (by omega)];have e1:decide ((k:Int)<(s.length:Int))=true:=jw (by omega);have e2:decide ((0:Int)<=(k:Int)/\(k:Int)<=((k+1:Nat):Int)/\((k+1:Nat):Int)<=(s.length:Int))=true:=jw (by omega);simp only[e1,e2,ju,gy];rw[show gO k (List.take (k+1) s)=[s[k]] from by grind [drop_cons]];refine kC.lH (aaR anB [s[k]] (by simp only[LI];decide)) ?_;rw[aeN,adF hlt];cases RX s[k] with
     |false=>grind [kC.pure]
     |true=>
      grind
   exact Ev.AN (F:=fun n m=>A8 n m s (s.length:Int) 0) (key s.length 0 (by omega))
theorem Zg (s:Str) (hs:s.length<LI):Ev (fun n=>Gi n s) (CL s):=by
 refine Ev.fn (fun n=>by simp only[Gi,kq,Lo,mB];exact rfl) ?_;simp only[LI] at hs
 match s with
 |[]=>exact Ev.pure
 |c::t=>
  simp only[show((c::t)==([]:Str))=false from rfl,jv,show tu (c::t) 0=some c from rfl,gu];refine Ev.bind (VQ c) ?_;rw[CL];have hs':(c::t).length<4294967281:=hs;generalize hst:c::t=s at*;cases yf c with
  |true=>
   simp only[ju];have hc:=Q4 s (by simp only[big];omega) 0 (gi _);rw[List.drop_zero,Nat.zero_add] at hc;refine Ev.bind hc ?_
   have e:(((vl s:Nat):Int)==(s.length:Int))=s.all L9:=by
    grind [ajW,vl]
   rw[e];cases s.all L9 with
   |false=>exact Ev.pure
   |true=>
    simp only[ju,gh];cases s==[95] with
    |true=>exact Ev.pure
    |false=>
     simp only[jv,gv,gh];exact Ev.bind (Xb s) Ev.pure
  |false=>
   simp only[jv]
   have key: ∀d k:Nat,k+d=s.length->kC (fun n m=>A4 n m s (k:Int)) ((s.drop k).all RX&&(!dd (s.drop (k-1))&&(decide (s.length<=8)&&(!oV.contains s||s==[43])))):=by
    intro d;induction d with
    |zero=>
     intro k hk;refine kC.lp (fun n m=>by simp only[MD,A3,mB];exact rfl) ?_;have:decide ((k:Int)<(s.length:Int))=false:=jx (by omega);simp only[this,jv];rw[gj (show s.length<=k by omega)];simp only[gR,gh]
     have:dd (s.drop (k-1))=false:=by
      match hd:s.drop (k-1) with
      |[]=>rfl
      |[x]=>simp [dd]
      |x::y::r=>
       grind [gz]
     rw[this,gv,gh];exact kC.lH ajQ (kC.Xi (Ev.AN (F:=fun n m=>wY n m s oV 0) (amA s)))
    |succ d ih=>
     intro k hk;have hlt:k<s.length:=by omega
     refine kC.lp (fun n m=>by simp only[MD,A3,mB];exact rfl) ?_;rw[kz (by omega)];have e1:decide ((k:Int)<(s.length:Int))=true:=jw (by omega);simp only[e1,ju];refine kC.idx hlt (kC.lH (auO _) ?_);rw[adF hlt];have next:=ih (k+1) (by omega)
     rw[Nat.add_sub_cancel] at next
     cases RX s[k] with
     |false=>grind [kC.pure]
     |true=>
      simp only[ju,gh];by_cases h0:0<k
      ·have e2:decide ((0:Int)<(k:Int))=true:=jw (by omega);simp only[e2,ju];have hk1:k-1<s.length:=by omega
       have hkk:k-1+1=k:=by omega
       have hdd:dd (s.drop (k-1))=((s[k-1]==45&&s[k]==45)||dd (s.drop k)):=by
        rw[drop_cons hk1,dd,hkk]
        simp_all
       rw[hdd];refine kC.idx hlt ?_;rw[show((s[k].toNat:Int)==45)=(s[k]==45) from s8 _ 45 (by decide)];cases s[k]==45 with
       |false=>grind
       |true=>
        simp only[ju,Bool.and_true];rw[wrap_small (by omega) (by omega),show(k:Int)-1=((k-1:Nat):Int) from by omega];refine kC.idx hk1 ?_;rw[show((s[k-1].toNat:Int)==45)=(s[k-1]==45) from s8 _ 45 (by decide)];cases s[k-1]==45 with
        |true=>simp_all [kC.pure]
        |false=>grind
      simp_all
   exact Ev.AN (F:=fun n m=>A4 n m s 0) (key s.length 0 (by omega))
abbrev cap:Nat:=1048640
def adG(c:UInt8):Bool:=(decide (97<=(c.toNat:Int))&&decide ((c.toNat:Int)<=122))||((decide (65<=(c.toNat:Int))&&decide ((c.toNat:Int)<=90))||((c.toNat:Int)==95))
def HZ:Bool->Str->Bool
 |b,[]=> !b
 |b,c::s=>bif adG c then HZ false s else bif b then false else bif ((c.toNat:Int)==46) then HZ true s else bif ((c.toNat:Int)==39)||(decide (48<=(c.toNat:Int))&&decide ((c.toNat:Int)<=57)) then HZ false s else false
def Pu(s:Str):Bool:=HZ true s&&decide ((s.length:Int)<=64)
def H6(n:jH):Bool:=n.parts.getD 0 []==[]
def rgt(n:jH):Bool:=n.parts.getD (n.parts.length-1) []==[]
def Zh:List Str->Bool
 |x::y::r=>(x==[]&&y==[])||Zh (y::r)
 |_=>false
def zJ(n:jH):Int:=
 bif decide (n.parts.length=0)||decide (16<n.parts.length) then 6
 else bif Zh n.parts||n.parts.all (· ==[]) then 3
 else bif n.parts.all (fun s=>s==[]||CL s) then
  (bif decide (n.level<0)||(decide (100<n.level)||(decide (n.AT<0)||decide (2<n.AT))) then 2
  else bif !(n.AT==0)&& !(H6 n&&rgt n) then 1 else bif Pu n.target then 0 else 29)
 else 4
def oR(n:jH):Str:=bif H6 n then n.parts.getD 1 [] else n.parts.getD 0 []
def pP(n:jH):List Str:=bif H6 n then n.parts.drop 2 else n.parts.drop 1
def zM(a b:jH):Bool:=(H6 a&&(pP b).contains (oR a))||(H6 b&&(pP a).contains (oR b))
def Hu(t n:jH):Bool:=H6 t==H6 n&&oR t==oR n
def SB(T:List jH)(n:jH):Int:=
 bif zJ n==0 then(bif decide (100<=T.length) then 6 else bif zM n n||T.any (fun t=>Hu t n||zM t n) then 8 else 0) else zJ n
def aaT(pre:List jH):List jH->Bool
 |[]=>true
 |n::r=>SB pre n==0&&aaT (pre++[n]) r
def aal(T:List jH):Bool:=aaT [] T
def xF(T:List jH)(s:Str)(c:Bool):Option jH:=T.find? fun n=>H6 n==c&&oR n==s
structure Ok(n:jH):Prop where
 pos:0<n.parts.length
 few:n.parts.length<=16
 adj:Zh n.parts=false
 sym:n.parts.all (· ==[])=false
 lo:0<=n.level
 hi:n.level<=100
 alo:0<=n.AT
 ahi:n.AT<=2
theorem Ok.of{n:jH}(h:zJ n=0):Ok n:=by
 unfold zJ at h;cases h1:decide (n.parts.length=0)||decide (16<n.parts.length) with
 |true=>grind
 |false=>
  rw[h1,jv] at h;cases h2:Zh n.parts||n.parts.all (· ==[]) with
  |true=>grind
  |false=>
   rw[h2,jv] at h;cases h3:n.parts.all (fun s=>s==[]||CL s) with
   |false=>grind
   |true=>
    rw[h3,ju] at h;cases h4:decide (n.level<0)||(decide (100<n.level)||(decide (n.AT<0)||decide (2<n.AT))) with
    |true=>grind
    |false=>
     simp only[gP,decide_eq_false_iff_not] at h1 h2 h4;exact⟨by omega,by omega,h2.1,h2.2,by omega,by omega,by omega,by omega⟩
structure Wx(T:List jH):Prop where
 chk: ∀n∈T,zJ n=0
 ay7: ∀a∈T,∀b∈T,zM a b=false
 auy: ∀a∈T,∀b∈T,Hu a b=true->a=b
 len:T.length<=100
theorem amB(a b:jH):zM a b=zM b a:=by unfold zM;rw[Bool.or_comm]
theorem amC{a b:jH}(h:Hu a b=true):Hu b a=true:=by
 grind [Hu]
theorem apf{T:List jH}{n:jH}(h:SB T n=0):zJ n=0/\T.length<100/\zM n n=false/\ ∀t∈T,Hu t n=false/\zM t n=false:=by
 unfold SB at h
 grind
theorem Wx.nil:Wx []:=⟨by simp,by simp,by simp,by simp⟩
theorem Wx.snoc{T:List jH}{n:jH}(g:Wx T)(h:SB T n=0):Wx (T++[n]):=by
 obtain⟨h1,h2,h3,h4⟩:=apf h;refine⟨fun a ha=> ?_,fun a ha b hb=> ?_,fun a ha b hb e=> ?_,by grind⟩
 ·rcases gB.1 ha with ha|ha
  ·exact g.chk a ha
  grind
 ·rcases gB.1 ha with ha|ha<;>rcases gB.1 hb with hb|hb
  ·exact g.ay7 a ha b hb
  all_goals grind [amB]
 ·rcases gB.1 ha with ha|ha<;>rcases gB.1 hb with hb|hb
  ·exact g.auy a ha b hb e
  all_goals grind [amC]
theorem Wx.go: ∀{r pre:List jH},Wx pre->aaT pre r=true->Wx (pre++r)
 |[],pre,g,_=>by rw[List.append_nil];exact g
 |n::r,pre,g,h=>by
  rw[aaT,gp,jB] at h;have:=Wx.go (g.snoc h.1) h.2
  rwa [List.append_assoc] at this
theorem Wx.of{T:List jH}(h:aal T=true):Wx T:=by simpa using Wx.go Wx.nil h
theorem Wx.ok{T:List jH}(g:Wx T){n:jH}(h:n∈T):Ok n:=Ok.of (g.chk n h)
theorem H7{T:List jH}{s:Str}{n:jH}(h:xF T s c=some n):n∈T/\H6 n=c/\oR n=s:=by
 have h1:=List.mem_of_find?_eq_some h;have h2:=List.find?_some h
 grind
theorem VS{T:List jH}(g:Wx T){n:jH}(h:n∈T):xF T (oR n) (H6 n)=some n:=by
 cases hf:xF T (oR n) (H6 n) with
 |none=>
  have:=List.find?_eq_none.1 hf n h;simp at this
 |some m=>
  obtain⟨a,b,c⟩:=H7 hf;rw[g.auy m a n h (by unfold Hu;simp [b,c])]
theorem ajX: ∀{l:List Str}{i:Nat},Zh l=false->i+1<l.length->l.getD i []=[]->l.getD (i+1) []≠[]
 |[],i,_,h,_=>by simp at h
 |[x],i,_,h,_=>by simp at h
 |x::y::r,0,h,_,e=>by
  grind [Zh]
 |x::y::r,i+1,h,hl,e=>by
  rw[Zh,gP] at h;have:=ajX (l:=y::r) (i:=i) h.2 (by simpa using hl) (by simpa using e);simpa using this
theorem Ok.aaU{n:jH}(k:Ok n)(h:H6 n=true):2<=n.parts.length:=by
 have hp:=k.pos
 match hn:n.parts with
 |[]=>rw[hn] at hp;simp at hp
 |[x]=>
  unfold H6 at h;rw[hn] at h;have:=k.sym
  grind
 |x::y::r=>simp
theorem Ok.head_ne{n:jH}(k:Ok n):oR n≠[]:=by
 unfold oR;cases h:H6 n with
 |true=>
  rw[ju];exact ajX k.adj (by have:=k.aaU h;omega) (by grind [H6])
 |false=>grind [H6]
def amD(n:jH):Bool:=H6 n&&rgt n
def Xc(n:jH)(i:Nat):Int:=
 bif decide (0<i)&&decide (i<n.parts.length-1) then 0
 else bif (amD n&&(decide (i=0)&& !(n.AT==1)))||(amD n&&(decide (0<i)&& !(n.AT==2))) then n.level+1 else n.level
def ay8(s:Str)(f t:Int):Syntax:= .mk 0 s 0 [] [] [] f t
def axc(o x:Syntax)(f t:Int):Syntax:= .mk 2 [] 0 [] [] [o,x] f t
def Vk(o:Syntax)(ops:List Syntax)(f t:Int):Syntax:=ops.foldl (fun o x=>axc o x f t) o
def JO(n:jH)(ops:List Syntax)(f t:Int):Syntax:=Vk (ay8 n.target f t) ops f t
def Zi:List Syntax->Option Str
 |[]=>none
 |x::_=>bif x.kind==17 then some x.text else none
inductive Cmd where
 |parts (n:jH) (ps:List Str) (i:Nat) (ops:List Syntax) (e:Int) (r:List Syntax)
 |first (m:Int) (r:List Syntax)
 |loop (m:Int) (out:Syntax) (has:Int) (r:List Syntax)
 |level (m:Int) (r:List Syntax)
inductive Out where
 |bad (r:List Syntax)
 |val (x:Syntax) (h:Int) (r:List Syntax)
 |ops (l:List Syntax) (e:Int) (r:List Syntax)
def aeO(T:List jH)(m has:Int)(r:List Syntax):Option jH:=
 match Zi r with
 |none=>none
 |some s=>match xF T s true with
  |none=>none
  |some n=>bif decide (n.level<m)||decide (has<Xc n 0) then none else some n
def aeP(T:List jH)(m:Int)(x:Syntax):Option jH:=
 match xF T x.text false with
 |none=>none
 |some n=>bif rgt n&&decide (n.level<m) then none else some n
def arO(n:jH):Int:=bif rgt n then n.level else 101
inductive GQ(T:List jH):Cmd->Out->Prop
 |Pv {n i ops e r}:GQ T (.parts n [] i ops e r) (.ops ops e r)
 |Zj {n ps i ops e r q}:GQ T (.level (Xc n i) r) (.bad q)->GQ T (.parts n ([]::ps) i ops e r) (.bad q)
 |hole {n ps i ops e r x h q o}:GQ T (.level (Xc n i) r) (.val x h q)->GQ T (.parts n ps (i+1) (ops++[x]) x.to q) o->GQ T (.parts n ([]::ps) i ops e r) o
 |adH {n s ps i ops e r}:s≠[]->Zi r≠some s->GQ T (.parts n (s::ps) i ops e r) (.bad r)
 |sym {n s ps i ops e y r o}:s≠[]->y.kind=17->y.text=s->GQ T (.parts n ps (i+1) ops y.to r) o->GQ T (.parts n (s::ps) i ops e (y::r)) o
 |Pw {m}:GQ T (.first m []) (.bad [])
 |H8 {m x r}:x.kind≠17->GQ T (.first m (x::r)) (.val x 101 r)
 |Px {m x r}:x.kind=17->aeP T m x=none->GQ T (.first m (x::r)) (.bad (x::r))
 |Vl {m x r n q}:x.kind=17->aeP T m x=some n->GQ T (.parts n n.parts 0 [] 0 (x::r)) (.bad q)->GQ T (.first m (x::r)) (.bad q)
 |first {m x r n l e q}:x.kind=17->aeP T m x=some n->GQ T (.parts n n.parts 0 [] 0 (x::r)) (.ops l e q)->GQ T (.first m (x::r)) (.val (JO n l x.from_ e) (arO n) q)
 |stop {m out has r}:aeO T m has r=none->GQ T (.loop m out has r) (.val out has r)
 |ajY {m out has r n q}:aeO T m has r=some n->GQ T (.parts n (n.parts.drop 1) 1 [out] 0 r) (.bad q)->GQ T (.loop m out has r) (.bad q)
 |go {m out has r n l e q o}:aeO T m has r=some n->GQ T (.parts n (n.parts.drop 1) 1 [out] 0 r) (.ops l e q)->GQ T (.loop m (JO n l out.from_ e) n.level q) o->GQ T (.loop m out has r) o
 |Py {m r q}:GQ T (.first m r) (.bad q)->GQ T (.level m r) (.bad q)
 |level {m r x h q o}:GQ T (.first m r) (.val x h q)->GQ T (.loop m x h q) o->GQ T (.level m r) o
def Cmd.rest:Cmd->List Syntax
 | .parts _ _ _ _ _ r=>r
 | .first _ r=>r
 | .loop _ _ _ r=>r
 | .level _ r=>r
def Out.rest:Out->List Syntax
 | .bad r=>r
 | .val _ _ r=>r
 | .ops _ _ r=>r
theorem GQ.suff{T:List jH}{c:Cmd}{o:Out}(h:GQ T c o):o.rest<:+c.rest:=by
 induction h with
 |Pv=>exact gI _
 |Zj _ ih=>exact ih
 |hole _ _ ih1 ih2=>exact ih2.trans ih1
 |adH _ _=>exact gI _
 |sym _ _ _ _ ih=>exact ih.trans (List.suffix_cons _ _)
 |Pw=>exact gI _
 |H8 _=>exact List.suffix_cons _ _
 |Px _ _=>exact gI _
 |Vl _ _ _ ih=>exact ih
 |first _ _ _ ih=>exact ih
 |stop _=>exact gI _
 |ajY _ _ ih=>exact ih
 |go _ _ _ ih1 ih2=>exact ih2.trans ih1
 |Py _ ih=>exact ih
 |level _ _ ih1 ih2=>exact ih2.trans ih1
def Cmd.wL:Cmd->Bool
 | .parts .. =>true
 |_=>false
def arP(c:Cmd):Out->Prop
 | .bad _=>True
 | .val .. =>c.wL=false
 | .ops .. =>c.wL=true
theorem GQ.avJ{T:List jH}{c:Cmd}{o:Out}(h:GQ T c o):arP c o:=by
 induction h with
 |hole _ _ _ ih=>exact ih
 |sym _ _ _ _ ih=>exact ih
 |go _ _ _ _ ih=>exact ih
 |level _ _ _ ih=>exact ih
 |_=>first|trivial|rfl
theorem VT{T:List jH}{n:jH}{ps:List Str}{i:Nat}{ops:List Syntax}{e:Int}{r:List Syntax}{o:Out}(h:GQ T (.parts n ps i ops e r) o):(∃q,o= .bad q)\/ ∃l e' q,o= .ops l e' q:=by
 have:=h.avJ
 match o,this with
 | .bad q,_=>exact .inl ⟨q,rfl⟩
 | .val x h q,this=>grind [arP,Cmd.wL]
 | .ops l e' q,_=>exact .inr ⟨l,e',q,rfl⟩
theorem Kv{T:List jH}{c:Cmd}{o:Out}(h:GQ T c o)(hc:c.wL=false):(∃q,o= .bad q)\/ ∃x hh q,o= .val x hh q:=by
 have:=h.avJ
 match o,this with
 | .bad q,_=>exact .inl ⟨q,rfl⟩
 | .val x h q,_=>exact .inr ⟨x,h,q,rfl⟩
 | .ops l e' q,this=>grind [arP]
theorem KB{T:List jH}{m:Int}{x:Syntax}{n:jH}(h:aeP T m x=some n):n∈T/\H6 n=false/\oR n=x.text/\(rgt n=true->m<=n.level):=by
 grind [aeP,H7]
theorem afN{r:List Syntax}{s:Str}(h:Zi r=some s): ∃y r',r=y::r'/\y.kind=17/\y.text=s:=by
 match r with
 |[]=>simp [Zi] at h
 |y::r'=>
  have h:(bif y.kind==17 then some y.text else none)=some s:=h
  grind
theorem anE{y:Syntax}{r:List Syntax}(h:y.kind=17):Zi (y::r)=some y.text:=by
 show(bif y.kind==17 then some y.text else none)=some y.text;rw[jB.2 h];rfl
theorem KC{T:List jH}{m has:Int}{r:List Syntax}{n:jH}(h:aeO T m has r=some n):n∈T/\H6 n=true/\Zi r=some (oR n)/\m<=n.level/\Xc n 0<=has:=by
 unfold aeO at h;split at h
 all_goals grind [H7]
theorem adI{n:jH}(h:H6 n=true):oR n=n.parts.getD 1 []:=by unfold oR;rw[h];rfl
theorem aaV{n:jH}(h:H6 n=false):oR n=n.parts.getD 0 []:=by unfold oR;rw[h];rfl
theorem amE{n:jH}(k:Ok n)(h:H6 n=true):n.parts=[]::oR n::n.parts.drop 2:=by
 have h2:=k.aaU h;rw[adI h];unfold H6 at h
 match hp:n.parts with
 |[]=>rw[hp] at h2;simp at h2
 |[x]=>rw[hp] at h2;simp at h2
 |x::y::r=>grind
theorem ajZ{n:jH}(k:Ok n)(h:H6 n=false):n.parts=oR n::n.parts.drop 1:=by
 have h2:=k.pos;rw[aaV h]
 match hp:n.parts with
 |[]=>rw[hp] at h2;simp at h2
 |x::r=>rfl
theorem GQ.total{T:List jH}(g:Wx T): ∀(k:Nat)(m:Int)(r:List Syntax),r.length<=k-> ∃o,GQ T (.level m r) o/\(∀x h q,o= .val x h q->q.length<r.length):=by
 intro k;induction k with
 |zero=>
  intro m r hr;have:r=[]:=gY.1 (by omega);subst this;exact⟨_,.Py .Pw,fun x h q e=>by cases e⟩
 |succ k ih=>
  intro m r hr
  have parts: ∀(n:jH)(ps:List Str)(i:Nat)(ops:List Syntax)(e:Int)(r:List Syntax),r.length<=k-> ∃o,GQ T (.parts n ps i ops e r) o:=by
   intro n ps;induction ps with
   |nil=>intro i ops e r _;exact⟨_,.Pv⟩
   |cons s ps ihp=>
    intro i ops e r hr;by_cases hs:s=[]
    ·subst hs;obtain⟨o,ho,_⟩:=ih (Xc n i) r hr;rcases Kv ho rfl with⟨q,rfl⟩|⟨x,h,q,rfl⟩
     ·exact⟨_,.Zj ho⟩
     ·obtain⟨o,h2⟩:=ihp (i+1) (ops++[x]) x.to q (Nat.le_trans ho.suff.length_le hr);exact⟨_,.hole ho h2⟩
    ·by_cases hq:Zi r=some s
     ·obtain⟨y,r',rfl,h1,h2⟩:=afN hq;rw[gz] at hr;obtain⟨o,h3⟩:=ihp (i+1) ops y.to r' (by omega);exact⟨_,.sym hs h1 h2 h3⟩
     ·exact⟨_,.adH hs hq⟩
  have arQ: ∀(n:jH)(ps:List Str)(i:Nat)(ops:List Syntax)(e:Int)(y:Syntax)(r:List Syntax),r.length<=k->oR n≠[]->y.kind=17->y.text=oR n-> ∃o,GQ T (.parts n (oR n::ps) i ops e (y::r)) o/\o.rest<:+r:=by
   intro n ps i ops e y r hr h0 h1 h2;obtain⟨o,ho⟩:=parts n ps (i+1) ops y.to r hr;exact⟨_,.sym h0 h1 h2 ho,ho.suff⟩
  have loop: ∀(j:Nat)(m:Int)(out:Syntax)(has:Int)(r:List Syntax),r.length<=j->j<=k-> ∃o,GQ T (.loop m out has r) o:=by
   intro j;induction j with
   |zero=>
    intro m out has r hr _;have:r=[]:=gY.1 (by omega);subst this;exact⟨_,.stop rfl⟩
   |succ j ihj=>
    intro m out has r hr hj;cases hg:aeO T m has r with
    |none=>exact⟨_,.stop hg⟩
    |some n=>
     obtain⟨hn,hl,hs,_,_⟩:=KC hg;obtain⟨y,r',rfl,h1,h2⟩:=afN hs;rw[gz] at hr;have kn:=g.ok hn
     have hp:n.parts.drop 1=oR n::n.parts.drop 2:=by
      grind [amE]
     obtain⟨o,ho,hsf⟩:=arQ n (n.parts.drop 2) 1 [out] 0 y r' (by omega) kn.head_ne h1 h2;rw[<-hp] at ho;rcases VT ho with⟨q,rfl⟩|⟨l,e,q,rfl⟩
     ·exact⟨_,.ajY hg ho⟩
     ·have:=hsf.length_le;obtain⟨o,h3⟩:=ihj m (JO n l out.from_ e) n.level q (by simp only[Out.rest] at this;omega) (by omega);exact⟨_,.go hg ho h3⟩
  have first: ∃o,GQ T (.first m r) o/\(∀x h q,o= .val x h q->q.length<r.length):=by
   match r,hr with
   |[],_=>exact⟨_,.Pw,fun x h q e=>by cases e⟩
   |x::r,hr=>
    rw[gz] at hr;by_cases hx:x.kind=17
    ·cases hb:aeP T m x with
     |none=>exact⟨_,.Px hx hb,fun x h q e=>by cases e⟩
     |some n=>
      obtain⟨hn,hl,hh,_⟩:=KB hb;have kn:=g.ok hn;obtain⟨o,ho,hsf⟩:=arQ n (n.parts.drop 1) 0 [] 0 x r (by omega) kn.head_ne hx hh.symm;rw[<-ajZ kn hl] at ho;rcases VT ho with⟨q,rfl⟩|⟨l,e,q,rfl⟩
      ·exact⟨_,.Vl hx hb ho,fun x h q e=>by cases e⟩
      ·refine⟨_,.first hx hb ho,fun x' h' q' e'=> ?_⟩
       grind [Out.rest]
    ·exact⟨_,.H8 hx,fun x h q e=>by cases e;simp⟩
  obtain⟨o,ho,hlt⟩:=first
  rcases Kv ho rfl with⟨q,rfl⟩|⟨x,h,q,rfl⟩
  ·exact⟨_,.Py ho,fun x h q e=>by cases e⟩
  ·have hq:=hlt x h q rfl;obtain⟨o,h2⟩:=loop k m x h q (by omega) (gf _);refine⟨o,.level ho h2,fun x' h' q' e'=> ?_⟩;have:=h2.suff.length_le
   grind [Out.rest,Cmd.rest]
theorem Zk(f t:Int): ∀(l:List Syntax)(o:Syntax),o.from_=f->o.to=t->(Vk o l f t).from_=f/\(Vk o l f t).to=t
 |[],_,h1,h2=>⟨h1,h2⟩
 |x::l,o,_,_=>Zk f t l (axc o x f t) rfl rfl
theorem Xd(n:jH)(l:List Syntax)(f t:Int):(JO n l f t).from_=f/\(JO n l f t).to=t:=Zk f t l _ rfl rfl
theorem arR{T:List jH}(g:Wx T){n:jH}(hn:n∈T)(hl:H6 n=true):n.parts.drop 1≠[]:=by
 have:=(g.ok hn).aaU hl
 grind [gK]
theorem adJ(c:UInt8):Ev (fun n=>Mv n (c.toNat:Int)) (adG c)/\Ev (fun n=>Kf n (c.toNat:Int)) (adG c):=by
 unfold adG;constructor
 ·refine Ev.fn (fun n=>by simp only[Mv,kq,No,mB];exact rfl) ?_
  grind [Ev.pure]
 ·refine Ev.fn (fun n=>by simp only[Kf,kq,KT,mB];exact rfl) ?_
  grind [Ev.pure]
theorem auQ(s:Str)(hl:s.length<=cap*4):Ev (fun n=>VH n s) (Pu s):=by
 refine li.ev ?_;refine li.fn (fun n=>by simp only[VH,kq,Uw,mB];exact rfl) ?_;refine li.AN (F:=fun n m=>Gd n m s true s.length 0) ?_;refine kW.up (S:=Bool) (L:=fun n m i b=>Gd n m s b s.length i) s.length (fun i b=>HZ true s=HZ b (s.drop i)) _ ?_ ?_ 0 true (by omega) rfl
 ·intro i b hi hI next
  refine kW.lp (fun n m=>by simp only[Uv,Gc,mB];exact rfl) ?_;simp only[hi,Int.ofNat_lt,decide_true,ju];refine kW.idx hi ?_;rw[gk hi,HZ] at hI;rw[kz (by simp only[cap] at hl;omega)];refine kW.lH ((adJ s[i]).1.tot (Q:=(· =adG s[i])) rfl) fun x hx=> ?_
  subst hx;cases h1:adG s[i] with
  |true=>
   grind
  |false=>
   rw[h1,jv] at hI;cases b with
   |true=>exact kW.pure (by grind [Pu])
   |false=>
    simp only[jv] at hI ⊢;cases h2:((s[i].toNat:Int)==46) with
    |true=>
     grind
    |false=>
     rw[h2,jv] at hI;simp only[jv];cases h3:((s[i].toNat:Int)==39) with
     |true=>
      grind
     |false=>
      rw[h3,gr] at hI;have e:((s[i].toNat:Int) !=39)=true:=by rw[bne,h3];rfl
      simp only[e,ju];refine kW.pO (fun h4=>kW.pure ?_) fun h4=>kW.pO (fun h5=>kW.pure ?_) fun h5=>next _ ?_
      all_goals grind [Pu]
 ·intro b hI;refine kW.lp (fun n m=>by simp only[Uv,Gc,mB];exact rfl) ?_;simp only[Int.lt_irrefl,decide_false,jv];rw[List.drop_length,HZ] at hI;cases b with
  |true=>exact kW.pure (by unfold Pu;rw[hI];rfl)
  |false=>exact kW.pure (by unfold Pu;rw[hI];simp)
theorem aj0(s:Str)(hl:s.length<=cap*4):Ev (fun n=>Qj n s) (Pu s):=by
 refine li.ev ?_;refine li.fn (fun n=>by simp only[Qj,kq,Qi,mB];exact rfl) ?_;refine li.pO (fun h=>li.pure ?_) fun _=> ?_
 ·have:=jB.1 h;subst this;rfl
 refine li.pO (fun h=>li.pure ?_) fun h64=> ?_
 ·grind [Pu]
 have aAQ:decide ((s.length:Int)<=64)=true:=jw (by grind);have hT:Pu s=HZ true s:=by grind [Pu]
 rw[hT];refine li.AN (F:=fun n m=>D0 n m s true 0) ?_;refine kW.up (S:=Bool) (L:=fun n m i b=>D0 n m s b i) s.length (fun i b=>HZ true s=HZ b (s.drop i)) _ ?_ ?_ 0 true (by omega) rfl
 ·intro i b hi hI next
  refine kW.lp (fun n m=>by simp only[Rt,DZ,mB];exact rfl) ?_;simp only[hi,Int.ofNat_lt,decide_true,ju];refine kW.idx hi ?_;rw[gk hi,HZ] at hI;rw[kz (by simp only[cap] at hl;omega)];have ay9:=(adJ s[i]).2;cases b with
  |true=>
   simp only[ju] at hI ⊢;refine kW.lH (ay9.tot (Q:=(· =adG s[i])) rfl) fun x hx=> ?_
   subst hx;cases h1:adG s[i] with
   |true=>grind
   |false=>rw[h1,jv] at hI;exact kW.pure hI.symm
  |false=>
   simp only[jv] at hI ⊢;cases h2:((s[i].toNat:Int)==46) with
   |true=>
    grind [adG]
   |false=>
    simp only[jv];refine kW.lH (ay9.tot (Q:=(· =adG s[i])) rfl) fun x hx=> ?_
    subst hx;cases h1:adG s[i] with
    |true=>grind
    |false=>
     rw[h1,jv,h2,jv] at hI;simp only[jv];cases h3:((s[i].toNat:Int)==39) with
     |true=>
      grind
     |false=>
      rw[h3,gr] at hI;have e:((s[i].toNat:Int) !=39)=true:=by rw[bne,h3];rfl
      simp only[e,ju];refine kW.pO (fun h4=>kW.pure ?_) fun h4=>kW.pO (fun h5=>kW.pure ?_) fun h5=>next _ ?_
      all_goals grind
 ·intro b hI;refine kW.lp (fun n m=>by simp only[Rt,DZ,mB];exact rfl) ?_;simp only[Int.lt_irrefl,decide_false,jv];rw[List.drop_length,HZ] at hI;exact kW.pure hI.symm
theorem Zl{α:Type}{bk:α->Nat}: ∀{xs:List α}{x:α},x∈xs->bk x+1<=GS bk xs
 |y::ys,x,h=>by
  rw[GS];rcases List.mem_cons.1 h with e|e
  ·grind [adq]
  ·have:=Zl (bk:=bk) e;omega
theorem adK{α:Type}{bk:α->Nat}(h: ∀x,1<=bk x): ∀xs:List α,xs.length+1<=GS bk xs
 |[]=>adq []
 |x::xs=>by
  have h1:=adK h xs
  grind [GS]
structure Nsm(n:jH):Prop where
 len:n.parts.length<=cap
 each: ∀s∈n.parts,s.length<=cap
 target:n.target.length<=cap
theorem Nsm.of{n:jH}(h:n.Ks<=cap):Nsm n:=by
 unfold jH.Ks at h;have h1:=adK (bk:=fun m:Str=>m.length+1) (fun _=>Nat.le_add_left _ _) n.parts;refine⟨by omega,fun s hs=> ?_,by omega⟩
 grind [Zl]
theorem ahj(i:Nat):decide (0<(i:Int))=decide (0<i):=decide_eq_decide.2 (by omega)
theorem axd(i k:Nat):decide ((i:Int)<(k:Int))=decide (i<k):=decide_eq_decide.2 (by omega)
theorem abY(i:Nat):((i:Int)==0)=decide (i=0):=by grind
theorem VU{k:Nat}(h:0<k)(h2:k<=cap):IntKind.i64.wrap ((k:Int)-1)=((k-1:Nat):Int):=by
 grind [wrap_small]
theorem getD_at{xs:List Str}{i:Nat}(h:i<xs.length):xs.getD i []=xs[i]:=by
 grind
theorem auR(h:0<xs.length):tu xs 0=some xs[0]:=n8 (i:=0) h
theorem aza(h:1<xs.length):tu xs 1=some xs[1]:=n8 (i:=1) h
theorem Ew{n:jH}(h:0<n.parts.length):Ev (fun k=>xM k n) (H6 n)/\Ev (fun k=>Ag k n) (H6 n):=by
 unfold H6;rw[getD_at h];constructor
 ·refine Ev.fn (fun n=>by simp only[xM,kq,Jz,mB];exact rfl) ?_;rw[auR h];exact Ev.pure
 ·refine Ev.fn (fun n=>by simp only[Ag,kq,P4,mB];exact rfl) ?_;rw[auR h];exact Ev.pure
theorem Ej{n:jH}(h:0<n.parts.length)(h2:n.parts.length<=cap):Ev (fun k=>yT k n) (rgt n)/\Ev (fun k=>Mp k n) (rgt n):=by
 unfold rgt;rw[getD_at (by omega)];constructor
 ·refine Ev.fn (fun n=>by simp only[yT,kq,HH,mB];exact rfl) ?_
  grind [VU,n8,Ev.pure]
 ·refine Ev.fn (fun n=>by simp only[Mp,kq,M9,mB];exact rfl) ?_
  grind [VU,n8,Ev.pure]
theorem Ok.LI{n:jH}(k:Ok n):n.parts.length<=cap:=by have:=k.few;simp only[cap];omega
theorem Q6{n:jH}(k:Ok n){i:Nat}(hi:i<n.parts.length):Ev (fun f=>D1 f n (i:Int)) (Xc n i):=by
 refine Ev.fn (fun n=>by simp only[D1,kq,JF,mB];exact rfl) ?_;have hp:=k.pos;refine Ev.bind (Ew hp).1 ?_;unfold Xc amD;have e2:IntKind.i64.wrap ((n.parts.length:Int)-1)=((n.parts.length-1:Nat):Int):=VU hp k.LI;have e3:IntKind.i64.wrap (n.level+1)=n.level+1:=wrap_small (by have:=k.lo;omega) (by have:=k.hi;omega);simp only[ahj,abY,e2,axd,e3];cases H6 n with
 |false=>
  grind [Ev.pure]
 |true=>
  simp only[ju,gh];refine Ev.bind (Ej hp k.LI).1 ?_
  grind [Ev.pure]
theorem Zm{n:jH}(k:Ok n):Ev (fun f=>HI f n) (oR n):=by
 refine Ev.fn (fun n=>by simp only[HI,kq,Qk,mB];exact rfl) ?_;refine Ev.bind (Ew k.pos).2 ?_;unfold oR;cases h:H6 n with
 |true=>
  have h2:=k.aaU h
  grind [aza,Ev.pure]
 |false=>
  simp only[jv];rw[auR k.pos,getD_at k.pos];exact Ev.pure
theorem afO{n:jH}(k:Ok n)(s:Str):Ev (fun f=>IW f n s) ((pP n).contains s):=by
 refine Ev.fn (fun n=>by simp only[IW,kq,Ns,mB];exact rfl) ?_;refine Ev.bind (Ew k.pos).2 ?_
 have key: ∀d i:Nat,i+d=n.parts.length->kC (fun f m=>yW f m s (i:Int) n) ((n.parts.drop i).contains s):=by
  intro d;induction d with
  |zero=>
   intro i hi;refine kC.lp (fun n m=>by simp only[Oz,B1,mB];exact rfl) ?_
   grind [kC.pure]
  |succ d ih=>
   intro i hi;have hlt:i<n.parts.length:=by omega
   refine kC.lp (fun n m=>by simp only[Oz,B1,mB];exact rfl) ?_;have:decide ((i:Int)<(n.parts.length:Int))=true:=jw (by omega);simp only[this,ju];refine kC.idx hlt ?_;rw[gk hlt,gD];rw[show(s==n.parts[i])=(n.parts[i]==s) from gF.2 ⟨fun h=>by simpa using (jB.1 h).symm,fun h=>by simpa using (jB.1 h).symm⟩];cases n.parts[i]==s with
   |true=>exact kC.pure
   |false=>
    simp only[jv,gr];rw[kz (by have:=k.few;omega)];exact ih (i+1) (by omega)
 unfold pP;cases h:H6 n with
 |true=>
  have h2:=k.aaU h;exact Ev.AN (F:=fun f m=>yW f m s 2 n) (key (n.parts.length-2) 2 (by omega))
 |false=>
  have h2:=k.pos;exact Ev.AN (F:=fun f m=>yW f m s 1 n) (key (n.parts.length-1) 1 (by omega))
theorem aj1{a b:jH}(ka:Ok a)(kb:Ok b):Ev (fun f=>zj f a b) (zM a b):=by
 refine Ev.fn (fun n=>by simp only[zj,kq,HQ,mB];exact rfl) ?_
 have two:Ev (fun f=>(Ag f b).bind fun x=>bif x then(HI f b).bind fun x=>(IW f a x).bind fun x=>some x else some false) (H6 b&&(pP a).contains (oR b)):=by
  refine Ev.bind (Ew kb.pos).2 ?_;cases H6 b with
  |false=>exact Ev.pure
  |true=>exact Ev.bind (Zm kb) (Ev.bind (afO ka _) Ev.pure)
 refine Ev.bind (Ew ka.pos).2 ?_;unfold zM;cases H6 a with
 |false=>exact two
 |true=>
  simp only[ju,gh];refine Ev.bind (Zm ka) (Ev.bind (afO kb _) ?_);cases (pP b).contains (oR a) with
  |true=>exact Ev.pure
  |false=>exact two
def afP (n:jH):Int:=bif decide (n.level<0)||(decide (100<n.level)||(decide (n.AT<0)||decide (2<n.AT))) then 2
    else bif !(n.AT==0)&& !(H6 n&&rgt n) then 1 else bif Pu n.target then 0 else 29
def apg(n:jH):Int:=bif n.parts.all (fun s=>s==[]||CL s) then afP n else 4
theorem anF{n:jH}{lf rt nm:Nat->Option Bool}(h1:Ev lf (H6 n))(h2:Ev rt (rgt n))(h3:Ev nm (Pu n.target)):
 Ev (fun f=>bif decide (n.level<0) then some 2 else bif decide (100<n.level) then some 2 else bif decide (n.AT<0) then some 2 else bif decide (2<n.AT) then some 2 else
  bif n.AT !=0 then(lf f).bind fun x=>bif x then(rt f).bind fun x=>bif x then(nm f).bind fun x=>bif x then some 0 else some 29 else some 1 else some 1
  else(nm f).bind fun x=>bif x then some 0 else some 29) (afP n):=by
 have nme:Ev (fun f=>(nm f).bind fun x=>bif x then some (0:Int) else some 29) (bif Pu n.target then 0 else 29):=by
  refine Ev.bind h3 ?_
  grind [Ev.pure]
 unfold afP;cases decide (n.level<0) with
 |true=>exact Ev.pure
 |false=>
 cases decide (100<n.level) with
 |true=>exact Ev.pure
 |false=>
 cases decide (n.AT<0) with
 |true=>exact Ev.pure
 |false=>
 cases decide (2<n.AT) with
 |true=>exact Ev.pure
 |false=>
 simp only[jv,Bool.or_self,bne];cases n.AT==0 with
 |true=>grind
 |false=>
  simp only[gv,ju,gh];refine Ev.bind h1 ?_;cases H6 n with
  |false=>exact Ev.pure
  |true=>
   simp only[ju,gh];refine Ev.bind h2 ?_
   grind [Ev.pure]
theorem arS{s:Str}(h:s.length<=cap):s.length<LI:=by grind
theorem azb{s:Str}(h:s.length<=cap):s.length<=cap*4:=by omega
theorem aam{p:α->Bool}{s:List α}{k:Nat}(h:k<s.length):(s.drop k).all p=(p s[k]&&(s.drop (k+1)).all p):=by
 grind [gk]
theorem axe{n:jH}(h:Nsm n)(hp:0<n.parts.length):kC (fun f m=>uU f m n.parts (n.parts.length:Int) 0 n) (apg n):=by
 have hl:=h.len;simp only[cap] at hl
 have key: ∀d i:Nat,i+d=n.parts.length->kC (fun f m=>uU f m n.parts (n.parts.length:Int) (i:Int) n) (bif (n.parts.drop i).all (fun s=>s==[]||CL s) then afP n else 4):=by
  intro d;induction d with
  |zero=>
   intro i hi;refine kC.lp (fun n m=>by simp only[J4,xo,mB];exact rfl) ?_;have:decide ((i:Int)<(n.parts.length:Int))=false:=jx (by omega);simp only[this,jv,gj (show n.parts.length<=i by omega),gR,ju];exact kC.Xi (anF (Ew hp).1 (Ej hp h.len).1 (auQ _ (azb h.target)))
  |succ d ih=>
   intro i hi;have hlt:i<n.parts.length:=by omega
   refine kC.lp (fun n m=>by simp only[J4,xo,mB];exact rfl) ?_;have:decide ((i:Int)<(n.parts.length:Int))=true:=jw (by omega);simp only[this,ju];refine kC.idx hlt ?_;rw[aam hlt];have next:=ih (i+1) (by omega)
   rw[<-kz (by omega)] at next
   cases n.parts[i]==[] with
   |true=>grind
   |false=>
    simp only[jv,gr];refine kC.lH (afM _ (arS (h.each _ (gx hlt)))) ?_
    grind [kC.pure]
 exact key n.parts.length 0 (by omega)
theorem auS{n:jH}(h:Nsm n)(hp:0<n.parts.length):kC (fun f m=>zt f m 0 n) (apg n):=by
 have hl:=h.len;simp only[cap] at hl
 have key: ∀d i:Nat,i+d=n.parts.length->kC (fun f m=>zt f m (i:Int) n) (bif (n.parts.drop i).all (fun s=>s==[]||CL s) then afP n else 4):=by
  intro d;induction d with
  |zero=>
   intro i hi;refine kC.lp (fun n m=>by simp only[O0,Cn,mB];exact rfl) ?_;have:decide ((i:Int)<(n.parts.length:Int))=false:=jx (by omega);simp only[this,jv,gj (show n.parts.length<=i by omega),gR,ju];exact kC.Xi (anF (Ew hp).2 (Ej hp h.len).2 (aj0 _ (azb h.target)))
  |succ d ih=>
   intro i hi;have hlt:i<n.parts.length:=by omega
   refine kC.lp (fun n m=>by simp only[O0,Cn,mB];exact rfl) ?_;have:decide ((i:Int)<(n.parts.length:Int))=true:=jw (by omega);simp only[this,ju];refine kC.idx hlt ?_;rw[aam hlt];have next:=ih (i+1) (by omega)
   rw[<-kz (by omega)] at next
   cases n.parts[i]==[] with
   |true=>grind
   |false=>
    simp only[jv,gr];refine kC.idx hlt ?_;refine kC.lH (Zg _ (arS (h.each _ (gx hlt)))) ?_
    grind [kC.pure]
 exact key n.parts.length 0 (by omega)
theorem aj2{l:List Str}{i:Nat}(h:0<i)(hi:i<l.length):Zh (l.drop (i-1))=((l[i-1]==[]&&l[i]==[])||Zh (l.drop i)):=by
 grind [gk,Zh]
theorem anG(l:List Str)(i:Nat)(h:l.length<=i):Zh (l.drop (i-1))=false:=by
 match hd:l.drop (i-1) with
 |[]=>rfl
 |[x]=>rfl
 |x::y::r=>
  grind [gz]
def MP(n:jH)(b:Bool)(i:Nat):Int:=bif Zh (n.parts.drop (i-1))||(!b&&(n.parts.drop i).all (· ==[])) then 3 else apg n
theorem H9{n:jH}{b:Bool}{i:Nat}(hi:i<n.parts.length)(h:i=0\/(n.parts[i-1]==[]&&n.parts[i]==[])=false):
 MP n b i=MP n (b|| !(n.parts[i]==[])) (i+1):=by
 unfold MP;rw[aam hi,Nat.add_sub_cancel]
 have:Zh (n.parts.drop (i-1))=Zh (n.parts.drop i):=by
  grind [aj2]
 grind
theorem afQ{n:jH}{b:Bool}{i:Nat}(h0:0<i)(hi:i<n.parts.length)(h1:(n.parts[i-1]==[])=true)(h2:(n.parts[i]==[])=true):MP n b i=3:=by
 grind [MP,aj2]
theorem afR{i:Nat}(h0:0<i)(h:i<=cap):IntKind.i64.wrap ((i:Int)-1)=((i-1:Nat):Int):=VU h0 h
theorem aaW{n:jH}(h1:0<n.parts.length)(h2:n.parts.length<=16):zJ n=MP n false 0:=by
 grind [zJ,MP,apg,afP]
theorem arT{n:jH}(h:Nsm n):Ev (fun f=>Gv f n) (zJ n):=by
 refine Ev.fn (fun n=>by simp only[Gv,kq,HU,mB];exact rfl) ?_;have hl:=h.len;rw[abY,show decide ((16:Int)<(n.parts.length:Int))=decide (16<n.parts.length) from decide_eq_decide.2 (by omega)];by_cases h0:n.parts.length=0
 ·grind [zJ,Ev.pure]
 by_cases h16:16<n.parts.length
 ·grind [zJ,Ev.pure]
 have hp:0<n.parts.length:=by omega
 rw[jx h0,jx h16,aaW hp (by omega)];simp only[jv]
 have key: ∀d i c:Nat,i+d=n.parts.length->c<=i->kC (fun f m=>xq f m (c:Int) n.parts (n.parts.length:Int) (i:Int) n) (MP n (!decide (c=0)) i):=by
  intro d;induction d with
  |zero=>
   intro i c hi hc;refine kC.lp (fun n m=>by simp only[J5,xp,mB];exact rfl) ?_;have:decide ((i:Int)<(n.parts.length:Int))=false:=jx (by omega);simp only[this,jv,abY]
   have e:MP n (!decide (c=0)) i=bif decide (c=0) then 3 else apg n:=by
    grind [MP,anG]
   rw[e];cases decide (c=0) with
   |true=>exact kC.pure
   |false=>exact kC.Xi (Ev.AN (F:=fun f m=>uU f m n.parts (n.parts.length:Int) 0 n) (axe h hp))
  |succ d ih=>
   intro i c hi hc;have hlt:i<n.parts.length:=by omega
   refine kC.lp (fun n m=>by simp only[J5,xp,mB];exact rfl) ?_;have:decide ((i:Int)<(n.parts.length:Int))=true:=jw (by omega);simp only[this,ju];refine kC.idx hlt ?_;cases hx:n.parts[i]==[] with
   |true=>
    simp only[ju,ahj];by_cases h0:0<i
    ·rw[jw h0];simp only[ju];rw[afR h0 (by omega)];refine kC.idx (show i-1<n.parts.length by omega) ?_;cases hy:n.parts[i-1]==[] with
     |true=>grind [afQ,kC.pure]
     |false=>
      simp only[jv];rw[H9 hlt (.inr (by rw[hy];rfl)),hx,gJ,gU,kz (by simp only[cap] at hl;omega)];exact ih (i+1) c (by omega) (by omega)
    ·rw[jx h0];simp only[jv];rw[H9 hlt (.inl (by omega)),hx,gJ,gU,kz (by simp only[cap] at hl;omega)];exact ih (i+1) c (by omega) (by omega)
   |false=>
    simp only[jv];rw[H9 hlt (.inr (by rw[hx,Bool.and_false])),hx,gv,Bool.or_true,kz (by simp only[cap] at hl;omega),kz (by simp only[cap] at hl;omega)];have:=ih (i+1) (c+1) (by omega) (by omega)
    grind
 exact Ev.AN (F:=fun f m=>xq f m 0 n.parts (n.parts.length:Int) 0 n) (key n.parts.length 0 0 (by omega) (gf _))
theorem aph{n:jH}(h:Nsm n):Ev (fun f=>ME f n) (zJ n):=by
 refine Ev.fn (fun n=>by simp only[ME,kq,NF,mB];exact rfl) ?_;have hl:=h.len;rw[abY,show decide ((16:Int)<(n.parts.length:Int))=decide (16<n.parts.length) from decide_eq_decide.2 (by omega)];by_cases h0:n.parts.length=0
 ·grind [zJ,Ev.pure]
 by_cases h16:16<n.parts.length
 ·grind [zJ,Ev.pure]
 have hp:0<n.parts.length:=by omega
 rw[jx h0,jx h16,aaW hp (by omega)];simp only[jv]
 have key: ∀d i:Nat,∀b:Bool,i+d=n.parts.length->kC (fun f m=>ut f m b (i:Int) n) (MP n b i):=by
  intro d;induction d with
  |zero=>
   intro i b hi;refine kC.lp (fun n m=>by simp only[O1,Cp,mB];exact rfl) ?_;have:decide ((i:Int)<(n.parts.length:Int))=false:=jx (by omega);simp only[this,jv]
   have e:MP n b i=bif b then apg n else 3:=by
    grind [MP,anG]
   rw[e];cases b with
   |false=>exact kC.pure
   |true=>exact kC.Xi (Ev.AN (F:=fun f m=>zt f m 0 n) (auS h hp))
  |succ d ih=>
   intro i b hi;have hlt:i<n.parts.length:=by omega
   refine kC.lp (fun n m=>by simp only[O1,Cp,mB];exact rfl) ?_;have:decide ((i:Int)<(n.parts.length:Int))=true:=jw (by omega);simp only[this,ju,ahj]
   have rest: ∀b':Bool,b'=(b|| !(n.parts[i]==[]))->kC (fun f m=>bif decide (0<i) then(tu n.parts (i:Int)).bind fun x=>bif x==[] then(tu n.parts (IntKind.i64.wrap ((i:Int)-1))).bind fun x=>bif x==[] then some 3 else ut f m b' (IntKind.i64.wrap ((i:Int)+1)) n else ut f m b' (IntKind.i64.wrap ((i:Int)+1)) n else ut f m b' (IntKind.i64.wrap ((i:Int)+1)) n) (MP n b i):=by
    intro b' hb';have next:=ih (i+1) b' (by omega)
    rw[<-kz (by simp only[cap] at hl;omega)] at next
    by_cases h0:0<i
    ·rw[jw h0];simp only[ju];refine kC.idx hlt ?_;cases hx:n.parts[i]==[] with
     |true=>
      simp only[ju];rw[afR h0 (by omega)];refine kC.idx (show i-1<n.parts.length by omega) ?_
      grind [afQ,kC.pure,H9]
     |false=>grind [H9]
    grind [H9]
   cases b with
   |true=>grind
   |false=>
    simp only[jv];refine kC.idx hlt ?_
    grind
 exact Ev.AN (F:=fun f m=>ut f m false 0 n) (key n.parts.length 0 false (by omega))
end Go.Abs
