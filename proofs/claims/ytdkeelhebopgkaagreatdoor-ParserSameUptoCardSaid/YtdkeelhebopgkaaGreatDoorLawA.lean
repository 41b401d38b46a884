/- A part of the proof: plain facts. -/
import Derived.Test.YtdkeelhebopgkaaGreatDoorCoreC
import Derived.Test.YtdkeelhebopgkaaGreatDoorDataA
import Derived.Test.YtdkeelhebopgkaaGreatDoorReadA
import Derived.KernelRfl
set_option linter.all false
open List renaming drop_eq_getElem_cons → gr,drop_eq_nil_of_le → gy,getElem_mem → gC,length_drop → gF,mem_singleton → gG,contains_cons → gH,mem_append → gI,drop_drop → gL,length_cons → gN,length_append → gO,suffix_refl → gP,length_nil → gR,getElem?_eq_getElem → gT,drop_zero → gU,any_cons → gW,take_length → gX,length_singleton → gZ,drop → hJ,all_nil → ia,take_append_getElem → ic,any_nil → ij,length_eq_zero_iff → ik,set_getElem_self → iw
open Int renaming le_refl → gu,toNat_natCast → gD,le_trans → gM,natCast_add → ir
open Nat renaming le_refl → gv,zero_le → gx,lt_succ_self → gY,strongRecOn → hU,le_succ → ib,le_of_lt → ig,add_zero → ii
open Bool renaming true_and → gw,false_or → gz,and_eq_true → gA,not_false → gE,not_true → gK,or_false → gQ,eq_iff_iff → gS,or_eq_false_iff → hO,or_eq_true → iq,false_and → iv,or_comm → iz
open Option renaming bind_some → gB,isSome_none → iA
open Go.Lib renaming contains → gJ,index → il,indexAny → iy
open Go.Utf8 renaming decode → gV
namespace Go.Abs
variable {c:Bool}{a b k:Int}{I:List (Str×Bool)}{C:List (Str×jY)}{α:Type}{xs:List α}{N j:Nat}{L:Nat->Nat->Int->Option Bool}{β:Type}{F:Nat->Option (PR (((jX×Unit)×Unit)×(β×Unit)) (((jX×Unit)×Unit)×(kr×Unit)))}{t:Syntax}{P:α->Nat->Prop}
section
variable {R S T:Type}
def Ev(F:Nat->Option R)(r:R):Prop:= ∃N,∀n,N<=n->F n=some r
def kR(F:Nat->Nat->Option R)(r:R):Prop:= ∃N,∀n m,N<=n->N<=m->F n m=some r
theorem Ev.fn{F G:Nat->Option R}{r:R}(h: ∀n,F (n+1)=G n)(hg:Ev G r):Ev F r:=by
 obtain⟨N,hN⟩:=hg;refine⟨N+1,fun n hn=> ?_⟩;obtain⟨k,rfl⟩: ∃k,n=k+1:=⟨n-1,by omega⟩;rw[h];exact hN k (by omega)
theorem Ev.zH{F:Nat->Nat->Option R}{r:R}(h:kR F r):Ev (fun n=>F n n) r:=by
 obtain⟨N,hN⟩:=h;exact⟨N,fun n hn=>hN n n hn hn⟩
theorem kR.Xr{F:Nat->Option R}{r:R}(h:Ev F r):kR (fun n _=>F n) r:=by
 obtain⟨N,hN⟩:=h;exact⟨N,fun n m hn _=>hN n hn⟩
theorem kR.lp{F G:Nat->Nat->Option R}{r:R}(h: ∀n m,F n (m+1)=G n m)(hg:kR G r):kR F r:=by
 obtain⟨N,hN⟩:=hg;refine⟨N+1,fun n m hn hm=> ?_⟩;obtain⟨k,rfl⟩: ∃k,m=k+1:=⟨m-1,by omega⟩
 grind
theorem Ev.pure{r:R}:Ev (fun _=>some r) r:=⟨0,fun _ _=>rfl⟩
theorem kR.pure{r:R}:kR (fun _ _=>some r) r:=⟨0,fun _ _ _ _=>rfl⟩
theorem Ev.bind{F:Nat->Option S}{G:Nat->S->Option R}{x:S}{r:R}(h:Ev F x)(hg:Ev (fun n=>G n x) r):Ev (fun n=>(F n).bind (G n)) r:=by
 obtain⟨N,hN⟩:=h;obtain⟨M,hM⟩:=hg;refine⟨max N M,fun n hn=> ?_⟩
 grind
theorem kR.bind{F:Nat->Nat->Option S}{G:Nat->Nat->S->Option R}{x:S}{r:R}(h:kR F x)(hg:kR (fun n m=>G n m x) r):kR (fun n m=>(F n m).bind (G n m)) r:=by
 obtain⟨N,hN⟩:=h;obtain⟨M,hM⟩:=hg;refine⟨max N M,fun n m hn hm=> ?_⟩
 grind
theorem kR.lQ{F:Nat->Option S}{G:Nat->Nat->S->Option R}{x:S}{r:R}(h:Ev F x)(hg:kR (fun n m=>G n m x) r):kR (fun n m=>(F n).bind (G n m)) r:=
 kR.bind (F:=fun n _=>F n) (kR.Xr h) hg
theorem Ev.congr{F G:Nat->Option R}{r:R}(hg:Ev G r)(h: ∀n,F n=G n):Ev F r:=by
 rw[show F=G from funext h];exact hg
def lI(F:Nat->Option R)(Q:R->Prop):Prop:= ∃r,Q r/\Ev F r
def lg(F:Nat->Nat->Option R)(Q:R->Prop):Prop:= ∃r,Q r/\kR F r
theorem lI.fn{F G:Nat->Option R}{Q:R->Prop}(h: ∀n,F (n+1)=G n)(hg:lI G Q):lI F Q:=Exists.imp (fun _ k=>⟨k.1,Ev.fn h k.2⟩) hg
theorem lI.zH{F:Nat->Nat->Option R}{Q:R->Prop}(h:lg F Q):lI (fun n=>F n n) Q:=Exists.imp (fun _ k=>⟨k.1,Ev.zH k.2⟩) h
theorem lg.Xr{F:Nat->Option R}{Q:R->Prop}(h:lI F Q):lg (fun n _=>F n) Q:=Exists.imp (fun _ k=>⟨k.1,kR.Xr k.2⟩) h
theorem lg.lp{F G:Nat->Nat->Option R}{Q:R->Prop}(h: ∀n m,F n (m+1)=G n m)(hg:lg G Q):lg F Q:=Exists.imp (fun _ k=>⟨k.1,kR.lp h k.2⟩) hg
theorem lI.pure{r:R}{Q:R->Prop}(h:Q r):lI (fun _=>some r) Q:=⟨r,h,Ev.pure⟩
theorem lg.pure{r:R}{Q:R->Prop}(h:Q r):lg (fun _ _=>some r) Q:=⟨r,h,kR.pure⟩
theorem lI.bind{F:Nat->Option S}{G:Nat->S->Option R}{P:S->Prop}{Q:R->Prop}(h:lI F P)(hg: ∀x,P x->lI (fun n=>G n x) Q):lI (fun n=>(F n).bind (G n)) Q:=by
 obtain⟨x,hx,hF⟩:=h;obtain⟨r,hr,hG⟩:=hg x hx;exact⟨r,hr,Ev.bind hF hG⟩
theorem lg.bind{F:Nat->Nat->Option S}{G:Nat->Nat->S->Option R}{P:S->Prop}{Q:R->Prop}(h:lg F P)(hg: ∀x,P x->lg (fun n m=>G n m x) Q):lg (fun n m=>(F n m).bind (G n m)) Q:=by
 obtain⟨x,hx,hF⟩:=h;obtain⟨r,hr,hG⟩:=hg x hx;exact⟨r,hr,kR.bind hF hG⟩
theorem lg.lQ{F:Nat->Option S}{G:Nat->Nat->S->Option R}{P:S->Prop}{Q:R->Prop}(h:lI F P)(hg: ∀x,P x->lg (fun n m=>G n m x) Q):lg (fun n m=>(F n).bind (G n m)) Q:=
 lg.bind (F:=fun n _=>F n) (lg.Xr h) hg
theorem lg.idx{xs:List S}{i:Nat}{G:Nat->Nat->S->Option R}{Q:R->Prop}(hi:i<xs.length)(hg:lg (fun n m=>G n m xs[i]) Q):lg (fun n m=>(wq xs (i:Int)).bind (G n m)) Q:=by
 grind [wq]
theorem lI.p9{A B:Nat->Option R}{Q:R->Prop}(h1:c=true->lI A Q)(h2:c=false->lI B Q):lI (fun n=>bif c then A n else B n) Q:=by
 cases c with
 |true=>exact h1 rfl
 |false=>exact h2 rfl
theorem lg.p9{A B:Nat->Nat->Option R}{Q:R->Prop}(h1:c=true->lg A Q)(h2:c=false->lg B Q):lg (fun n m=>bif c then A n m else B n m) Q:=by
 cases c with
 |true=>exact h1 rfl
 |false=>exact h2 rfl
theorem lI.ev{F:Nat->Option R}{r:R}(h:lI F (· =r)):Ev F r:=by obtain⟨s,rfl,h⟩:=h;exact h
theorem Ev.tot{F:Nat->Option R}{r:R}{Q:R->Prop}(h:Ev F r)(q:Q r):lI F Q:=⟨r,q,h⟩
theorem lg.up {L:Nat->Nat->Int->S->Option R} (len:Nat) (I:Nat->S->Prop) (Q:R->Prop)
 (h1: ∀i s,i<len->I i s->(∀s',I (i+1) s'->lg (fun n m=>L n m ((i+1:Nat):Int) s') Q)->lg (fun n m=>L n m (i:Int) s) Q)
 (h2: ∀s,I len s->lg (fun n m=>L n m (len:Int) s) Q): ∀(i:Nat)(s:S),i<=len->I i s->lg (fun n m=>L n m (i:Int) s) Q:=by
 intro i s hi h;obtain⟨k,hk⟩: ∃k,k=len-i:=⟨_,rfl⟩;induction k generalizing i s with
 |zero=>obtain rfl:i=len:=by omega
        exact h2 s h
 |succ k ih=>grind
theorem wrap_small{n:Int}(h: -9223372036854775808<=n)(h2:n<=9223372036854775807):IntKind.i64.wrap n=n:=by
 grind [IntKind.wrap,IntKind.signed,IntKind.bits]
theorem kO{i:Nat}(h:i<9223372036854775807):IntKind.i64.wrap ((i:Int)+1)=((i+1:Nat):Int):=by
 grind [wrap_small]
theorem qi{xs:List S}{i:Nat}(hi:i<xs.length):wq xs (i:Int)=some xs[i]:=by simp [wq]
theorem kR.idx{xs:List S}{i:Nat}{G:Nat->Nat->S->Option R}{r:R}(hi:i<xs.length)(hg:kR (fun n m=>G n m xs[i]) r):kR (fun n m=>(wq xs (i:Int)).bind (G n m)) r:=by
 simp [qi hi];exact hg
noncomputable def UR (a b:α):Bool:= @decide (a=b) (Classical.propDecidable _)
theorem N9{a b:α}:UR a b=true↔a=b:=by
 grind [UR]
theorem WL(a:α):UR a a=true:=N9.2 rfl
theorem aqS{a b:α}(h:a≠b):UR a b=false:=by
 grind [N9]
theorem afc(x y:α)(xs ys:List α):UR (x::xs) (y::ys)=(UR x y&&UR xs ys):=by
 grind [N9]
theorem Lw {ys:List α}(h:xs.length≠ys.length):UR xs ys=false:=aqS fun e=>h (by rw[e])
theorem apm[BEq α][LawfulBEq α](x y:α):UR x y=(x==y):=by
 grind [N9]
theorem kR.andThen{F:Nat->Nat->Option Bool}{r:Bool}(h:kR F r):kR (fun n m=>bif c then F n m else some false) (c&&r):=by
 cases c with
 |true=>exact h
 |false=>exact kR.pure
theorem kR.same(xs ys:List α)(hl:xs.length=ys.length)
 (h1: ∀(i:Nat)(hi:i<xs.length)(hj:i<ys.length)(r:Bool),kR (fun n m=>L n m ((i+1:Nat):Int)) r->kR (fun n m=>L n m (i:Int)) (UR xs[i] ys[i]&&r))
 (h2:kR (fun n m=>L n m (xs.length:Int)) true):kR (fun n m=>L n m 0) (UR xs ys):=by
 have key: ∀(k i:Nat),k+i=xs.length->kR (fun n m=>L n m (i:Int)) (UR (xs.drop i) (ys.drop i)):=by
  intro k;induction k with
  |zero=>
   grind [WL]
  |succ k ih=>
   grind [gr,afc]
 have:=key xs.length 0 (by omega);simpa using this
end
inductive Rs(α:Type) where
 |ok (x:α) (j:Nat)
 |er (e at_:Int)
variable {rs:Rs β}{f:β->Nat->Rs α}
def Rs.bind:Rs α->(α->Nat->Rs β)->Rs β
 | .ok x j,f=>f x j
 | .er e a,_=> .er e a
structure Src where
 len:Nat
 K:Nat->Int×Str
 F:Nat->Int
 E:Nat->Int
 isS:Str->Bool
 np:List Syntax->Syntax×Int×Int
def X1:Syntax:= .mk 0 [] 0 [] [] [] 0 0
def an9(s:Str):Bool:=s.contains 46
def X4(s:Str):Int:=s.foldl (fun n c=>10*n+((c.toNat:Int)-48)) 0
namespace Src
section
variable (S:Src)
def nx(i:Nat):Nat:=if i+1<S.len then i+1 else i
def is(k:Int)(s:Str)(i:Nat):Bool:=(S.K i).1==k&&(S.K i).2==s
def sym(s:Str)(i:Nat):Bool:=S.is 2 s i
def key(s:Str)(i:Nat):Bool:=S.is 3 s i
def bad(i:Nat):Rs α:= .er 4 (S.F i)
def deep(i:Nat):Rs α:= .er 7 (S.F i)
def take(s:Str)(i:Nat):Rs Unit:=bif S.sym s i||S.key s i then .ok () (S.nx i) else S.bad i
def simple(i:Nat):Bool:=(S.K i).1==0&& !an9 (S.K i).2
def isVar(i:Nat):Bool:=S.simple i||S.sym [95] i
def var(i:Nat):Rs Str:=bif S.isVar i then .ok (S.K i).2 (S.nx i) else S.bad i
def Gx:Nat->List Str->Nat->Rs (List Str)
 |0,out,i=>bif S.isVar i then S.deep i else .ok out i
 |m+1,out,i=>bif S.isVar i then Gx m (out++[(S.K i).2]) (S.nx i) else .ok out i
def vars(i:Nat):Rs (List Str):=(S.var i).bind fun s j=>S.Gx 199 [s] j
def ML(i:Nat):Rs Str:=bif S.simple i then .ok (S.K i).2 (S.nx i) else S.bad i
def name(i:Nat):Rs Str:=bif (S.K i).1==0 then .ok (S.K i).2 (S.nx i) else S.bad i
def num(i:Nat):Rs Int:=bif (S.K i).1==1 then .ok (X4 (S.K i).2) (S.nx i) else S.bad i
def listed{α:Type}(one:Nat->Rs (List α)):Nat->List α->Nat->Rs (List α)
 |0,_,i=>S.deep i
 |m+1,out,i=>(one i).bind fun l j=>bif S.sym [44] j then listed one m (out++l) (S.nx j) else .ok (out++l) j
def plus(out:List kf)(i:Nat):Rs (List kf):=
 bif S.sym [43] i then(S.num (S.nx i)).bind fun n j=>bif out.all (fun a=>decide (a.plus+n<=999999)) then .ok (out.map fun a=>{name:=a.name,plus:=a.plus+n}) j else .er 5 (S.F (S.nx i))
 else .ok out i
def lz:Nat->Nat->Rs (List kf)
 |0,i=>S.bad i
 |f+1,i=>(bif (S.K i).1==1 then(S.num i).bind fun n j=> .ok [{name:=[],plus:=n}] j
   else bif S.is 0 [109,97,120] i&&(decide (i+1<S.len)&&S.sym [40] (i+1)) then(S.listed (lz f) 200 [] (S.nx (S.nx i))).bind fun l j=>(S.take [41] j).bind fun _ k=> .ok l k
   else(S.ML i).bind fun s j=> .ok [{name:=s,plus:=0}] j).bind S.plus
def level(i:Nat):Rs j7:=bif S.sym [95] i then .ok {hole:=true,lz:=[]} (S.nx i) else(S.lz S.len i).bind fun l j=> .ok {hole:=false,lz:=l} j
def one(i:Nat):Rs j7:=
 bif (S.K i).1==1 then(S.num i).bind fun n j=> .ok {hole:=false,lz:=[{name:=[],plus:=n}]} j
 else bif S.simple i then .ok {hole:=false,lz:=[{name:=(S.K i).2,plus:=0}]} (S.nx i)
 else bif S.sym [40] i then(S.level (S.nx i)).bind fun l j=>(S.take [41] j).bind fun _ k=> .ok l k
 else .ok {hole:=true,lz:=[]} (bif S.sym [95] i then S.nx i else i)
def levels(i:Nat):Rs (List j7):=
 bif S.sym [46,123] i then(S.listed (fun i=>(S.level i).bind fun l j=> .ok [l] j) 200 [] (S.nx i)).bind fun l j=>(S.take [125] j).bind fun _ k=> .ok l k
 else .ok [] i
def DA(i:Nat):Bool:=
 (S.K i).1==0||(S.K i).1==1||S.sym [40] i||S.sym [40,41] i||S.sym [95] i||S.sym [64] i||S.key [80,114,111,112] i||S.key [84,121,112,101] i||S.key [98,121] i
def II(i:Nat):Bool:=(S.K i).1==2&&(!((S.K i).2==[95])&&S.isS (S.K i).2)
def X5(kind num:Int)(l:List kg)(body:Syntax)(from_:Int):Syntax:=l.foldr (fun b body=> .mk kind b.name num [] [] [b.t,body] from_ body.to) body
def typed(l:List Str)(t:Syntax):List kg:=l.map fun s=>{name:=s,t}
def wr:Nat->List Str->Nat->List Str
 |0,_,_=>[]
 |f+1,out,i=>bif S.sym [58] i then out else bif S.isVar i then wr f (out++[(S.K i).2]) (i+1) else []
def written(i:Nat):List Str:=bif S.sym [40] i then S.wr (S.len-(i+1)) [] (i+1) else []
def hole(j:Nat):Syntax:= .mk 1 [] 0 [] [] [] (S.E j) (S.E j)
section
variable (ex ta:Nat->Rs Syntax)
def alts:Nat->Syntax->Nat->Rs Syntax
 |0,x,i=>bif S.sym [60,124,62] i then S.deep (S.nx i) else .ok x i
 |m+1,x,i=>bif S.sym [60,124,62] i then(ta (S.nx i)).bind fun y j=>alts m (.mk 15 [60,124,62] 0 [] [] [x,y] x.from_ y.to) j else .ok x i
def alt(i:Nat):Rs Syntax:=(ta i).bind fun x j=>S.alts ta 199 x j
def Ll:Nat->List Syntax->Nat->Rs (List Syntax)
 |0,out,i=>bif S.sym [125] i then .ok out i else S.deep i
 |m+1,out,i=>bif S.sym [125] i then .ok out i else(S.alt ta i).bind fun x j=>bif S.sym [59] j then Ll m (out++[x]) (S.nx j) else .ok (out++[x]) j
def aBD(i:Nat):Rs (List Syntax):=S.Ll ta 200 [] i
def block(i:Nat):Rs (List Syntax):=(S.take [123] i).bind fun _ j=>(S.aBD ta j).bind fun l k=>(S.take [125] k).bind fun _ q=> .ok l q
def fill(i:Nat):Rs Syntax:=
 bif (S.K i).1==0 then(S.levels (S.nx i)).bind fun l j=> .ok (.mk 0 (S.K i).2 0 [] l [] (S.F i) 0) j
 else bif S.sym [64] i then(S.name (S.nx i)).bind fun s j=>(S.levels j).bind fun l k=> .ok (.mk 0 s 1 [] l [] (S.F i) 0) k
 else bif S.sym [95] i then .ok (.mk 1 [] 0 [] [] [] (S.F i) 0) (S.nx i)
 else bif (S.K i).1==1 then(S.num i).bind fun n j=> .ok (.mk 12 [] n [] [] [] (S.F i) 0) j
 else bif S.key [80,114,111,112] i then .ok (.mk 10 [] 0 [] [] [] (S.F i) 0) (S.nx i)
 else bif S.key [84,121,112,101] i then(S.one (S.nx i)).bind fun l j=> .ok (.mk 11 [] 0 [] [l] [] (S.F i) 0) j
 else bif S.sym [40,41] i then .ok (.mk 16 [] 0 [] [] [] (S.F i) 0) (S.nx i)
 else bif S.key [98,121] i then(S.block ta (S.nx i)).bind fun l j=> .ok (.mk 14 [] 0 [] [] l (S.F i) 0) j
 else S.bad i
def apn(x:Syntax)(t:Int):Syntax:= .mk x.kind x.text x.num x.names x.levels x.kids x.from_ t
def Su(x:Syntax)(t:Int):Syntax:= .mk x.kind x.text x.num x.names x.levels x.kids t x.to
def pairs(to:Int):List Syntax->Syntax->Syntax
 |[],x=>x
 |y::l,x=> .mk 6 [] 0 [] [] [x,pairs to l y] x.from_ to
def adm:Nat->List Syntax->Nat->Rs (List Syntax)
 |0,out,i=>bif S.sym [44] i then S.deep (S.nx i) else .ok out i
 |m+1,out,i=>bif S.sym [44] i then(ex (S.nx i)).bind fun x j=>adm m (out++[x]) j else .ok out i
def HZ(o i:Nat):Rs Syntax:=
 (ex i).bind fun x j=>
   bif S.sym [41] j then .ok x (S.nx j)
   else bif S.sym [58] j then(ex (S.nx j)).bind fun t k=>(S.take [41] k).bind fun _ q=> .ok (.mk 13 [] 0 [] [] [x,t] (S.F o) (S.E q)) q
   else bif S.sym [44] j then(S.adm ex 199 [] j).bind fun l k=>(S.take [41] k).bind fun _ q=> .ok (Su (pairs (S.E q) l x) (S.F o)) q
   else S.bad j
def basic(i:Nat):Rs Syntax:=bif S.sym [40] i then S.HZ ex i (S.nx i) else(S.fill ta i).bind fun x j=> .ok (apn x (S.E j)) j
def Gy:Nat->Syntax->Nat->Rs Syntax
 |0,x,i=>bif S.sym [46,49] i||S.sym [46,50] i then S.deep i else .ok x i
 |m+1,x,i=>bif S.sym [46,49] i||S.sym [46,50] i then Gy m (.mk (bif (S.K i).2==[46,50] then 8 else 7) [] 0 [] [] [x] x.from_ (S.E (S.nx i))) (S.nx i) else .ok x i
def Zx(i:Nat):Rs Syntax:=(S.basic ex ta i).bind fun x j=>S.Gy 200 x j
def US:Nat->Syntax->Nat->Rs Syntax
 |0,x,i=>bif S.DA i then S.deep i else .ok x i
 |m+1,x,i=>bif S.DA i then(S.Zx ex ta i).bind fun y j=>US m (.mk 2 [] 0 [] [] [x,y] x.from_ y.to) j else .ok x i
def app(i:Nat):Rs Syntax:=(S.Zx ex ta i).bind fun x j=>S.US ex ta 199 x j
def item(i:Nat):Rs Syntax:=bif S.II i then .ok (.mk 17 (S.K i).2 0 [] [] [] (S.F i) (S.E (S.nx i))) (S.nx i) else S.app ex ta i
def zC:Nat->List Syntax->Nat->Rs (List Syntax)
 |0,out,i=>bif S.II i||S.DA i then S.deep i else .ok out i
 |m+1,out,i=>bif S.II i||S.DA i then(S.item ex ta i).bind fun x j=>zC m (out++[x]) j else .ok out i
def afd(l:List Syntax)(i:Nat):Rs Syntax:=
 match l with
 |[]=>S.bad i
 |x::r=>bif r.isEmpty&& !(x.kind==17) then .ok x i
  else bif (S.np (x::r)).2.2==0 then .ok (S.np (x::r)).1 i
  else match (x::r)[(S.np (x::r)).2.1.toNat]? with
   |some y=> .er (S.np (x::r)).2.2 y.from_
   |none=> .er (S.np (x::r)).2.2 (S.F i)
def op(i:Nat):Rs Syntax:=(S.zC ex ta 200 [] i).bind S.afd
def binder(open_ shut:Str)(i:Nat):Rs (List kg):=
 (S.take open_ i).bind fun _ i=>(bif open_==[91] then(S.var i).bind fun s j=> .ok [s] j else S.vars i).bind fun l i=>
   (S.take [58] i).bind fun _ i=>(ex i).bind fun t i=>(S.take shut i).bind fun _ i=> .ok (typed l t) i
def product(kind num:Int)(o:Nat)(l:List kg)(sep:Str)(i:Nat):Rs Syntax:=
 (S.take sep i).bind fun _ i=>(ex i).bind fun x j=> .ok (X5 kind num l x (S.F o)) j
def Pl:Nat->List kg->Nat->Rs (List kg)
 |0,out,i=>bif S.sym [61,62] i then .ok out i else S.deep i
 |m+1,out,i=>bif S.sym [61,62] i&& !out.isEmpty then .ok out i
  else bif S.sym [40] i then(S.binder ex [40] [41] i).bind fun l j=>Pl m (out++l) j
  else(S.var i).bind fun s j=>Pl m (out++[{name:=s,t:=S.hole j}]) j
def agt(i:Nat):Rs Syntax:=(S.Pl ex 200 [] (S.nx i)).bind fun l j=>(S.take [61,62] j).bind fun _ j=>(ex j).bind fun x k=> .ok (X5 3 0 l x (S.F i)) k
def Ni(i:Nat):Rs Syntax:=
 (S.var (S.nx i)).bind fun s j=>(bif S.sym [58] j then ex (S.nx j) else .ok (S.hole j) j).bind fun t k=>(S.take [58,61] k).bind fun _ k=>(ex k).bind fun v q=>(S.take [105,110] q).bind fun _ q=>(ex q).bind fun b r=>
   .ok (.mk 9 s 0 [] [] [t,v,b] (S.F i) b.to) r
def Oa(i:Nat):Rs Syntax:=
 (S.op ex ta i).bind fun x j=>bif S.sym [45,62] j then
     (ex (S.nx j)).bind fun b k=> .ok (X5 4 0 (bif x.kind==13&&(x.from_==S.F i&& !(S.written i).isEmpty) then typed (S.written i) (x.kids.getD 1 X1) else [{name:=[],t:=x}]) b x.from_) k
   else .ok x j
def ye(i:Nat):Rs Syntax:=
 bif S.key [102,117,110] i then S.agt ex i
 else bif S.key [108,101,116] i then S.Ni ex i
 else bif S.key [83,105,103,109,97] i then(S.binder ex [40] [41] (S.nx i)).bind fun l j=>S.product ex 5 0 i l [44] j
 else bif S.sym [123] i then(S.binder ex [123] [125] i).bind fun l j=>S.product ex 4 1 i l [45,62] j
 else bif S.sym [91] i then(S.binder ex [91] [93] i).bind fun l j=>S.product ex 4 2 i l [45,62] j
 else S.Oa ex ta i
def Lm:Nat->List Str->Nat->Rs (List Str)
 |0,out,i=>bif (S.K i).1==0 then S.deep i else .ok out i
 |m+1,out,i=>bif (S.K i).1==0 then Lm m (out++[(S.K i).2]) (S.nx i) else .ok out i
def known(w:Str)(i:Nat):Rs (List Str×List Syntax):=
 bif w==[102,111,99,117,115] then(S.block ta (S.nx i)).bind fun l j=> .ok ([],l) j
 else bif [[101,120,97,99,116],[97,112,112,108,121],[99,104,97,110,103,101],[114,101,119,114,105,116,101],[114,101,119,114,105,116,101,66,97,99,107]].contains w then(ex (S.nx i)).bind fun x j=> .ok ([],[x]) j
 else bif [[97,115,115,117,109,112,116,105,111,110],[99,111,110,103,114,117,101,110,99,101],[108,105,110,97,114,105,116,104],[115,107,105,112]].contains w then .ok ([],[]) (S.nx i)
 else bif w==[105,110,116,114,111] then(S.var (S.nx i)).bind fun s j=> .ok ([s],[]) j
 else bif w==[105,110,116,114,111,115] then(S.vars (S.nx i)).bind fun l j=> .ok (l,[]) j
 else bif [[114,101,118,101,114,116],[105,110,100,117,99,116,105,111,110],[99,97,115,101,115],[105,110,106,101,99,116,105,111,110]].contains w then(S.ML (S.nx i)).bind fun s j=> .ok ([s],[]) j
 else bif w==[115,105,109,112,108,105,102,121] then(S.name (S.nx i)).bind fun s j=>(S.Lm 199 [s] j).bind fun l k=> .ok (l,[]) k
 else bif w==[114,101,112,101,97,116]||w==[97,108,108] then(ta (S.nx i)).bind fun x j=> .ok ([],[x]) j
 else S.bad i
def WM(i:Nat):Rs Syntax:=
 (bif S.sym [123] i then(S.block ta i).bind fun l j=> .ok (([],l):List Str×List Syntax) j
   else bif (S.K i).1==0 then S.known ex ta (S.K i).2 i else S.bad i).bind fun p j=> .ok (.mk 15 (S.K i).2 0 p.1 [] p.2 (S.F i) (S.E j)) j
end
def both:Nat->(Nat->Rs Syntax)×(Nat->Rs Syntax)
 |0=>(fun i=>S.deep i,fun i=>S.deep i)
 |d+1=>(S.ye (both d).1 (both d).2,S.WM (both d).1 (both d).2)
def u0(d i:Nat):Rs Syntax:=(S.both d).1 i
def DB(d i:Nat):Rs Syntax:=(S.both d).2 i
def whole:Rs Syntax:=(S.u0 200 0).bind fun x j=>bif (S.K j).1==4 then .ok x j else S.bad j
end
end Src
structure Cx where
 T:List kI
 b:Int
 tb:List jY
 sy:List Str
 np:List Syntax->Syntax×Int×Int
structure rU(Z:Cx):Prop where
 pos:0<Z.T.length
 len:Z.T.length<=100000
 base:0<=Z.b/\Z.b<=100000
 at_: ∀t∈Z.T,0<=t.at_/\t.at_<=100000/\t.text.length<=100000
 num: ∀t∈Z.T,t.kind=1->(t.text.length<=18/\Lib.atoi t.text=some (X4 t.text))/\0<=X4 t.text/\X4 t.text<=999999
def Cx.S(Z:Cx):Src where
 len:=Z.T.length
 K:=fun i=>match Z.T[i]? with|some t=>(t.kind,t.text)|none=>(4,[])
 F:=fun i=>Z.b+match Z.T[i]? with|some t=>t.at_|none=>0
 E:=fun i=>match i with|0=>Z.b|k+1=>Z.b+match Z.T[k]? with|some t=>t.at_+(t.text.length:Int)|none=>0
 isS:=fun s=>Z.sy.contains s
 np:=Z.np
def Cx.st(Z:Cx)(i:Nat)(d:Int):jX:={so:={tokens:=Z.T,next:=(i:Int),base:=Z.b},table:=Z.tb,xO:=Z.sy,depth:=d}
theorem Ev.to{S R:Type}{F:Nat->Option S}{x:S}{G:Nat->S->Option R}{Q:R->Prop}(h:Ev F x)(hg:lI (fun n=>G n x) Q):lI (fun n=>(F n).bind (G n)) Q:=
 lI.bind (Ev.tot (Q:=(· =x)) h rfl) fun r hr=>by subst hr;exact hg
theorem Ev.DC{S R:Type}{F:Nat->Option S}{x:S}{G:Nat->Nat->S->Option R}{Q:R->Prop}(h:Ev F x)(hg:lg (fun n m=>G n m x) Q):lg (fun n m=>(F n).bind (G n m)) Q:=
 lg.lQ (Ev.tot (Q:=(· =x)) h rfl) fun r hr=>by subst hr;exact hg
section
variable {Z:Cx}
def RP(Z:Cx)(d:Int):Rs α->PR (((jX×Unit)×Unit)×(α×Unit)) (((jX×Unit)×Unit)×(kr×Unit))->Prop
 | .ok x j,r=>j<Z.T.length/\r= .ok (((Z.st j d,()),()),x,())
 | .er e a,r=> ∃p,r= .pn (((p,()),()),{e:=e,at_:=a},())
def RU(Z:Cx)(d:Int):Rs Unit->PR (((jX×Unit)×Unit)×Unit) (((jX×Unit)×Unit)×(kr×Unit))->Prop
 | .ok x j,r=>j<Z.T.length/\r= .ok (((Z.st j d,()),()),())
 | .er e a,r=> ∃p,r= .pn (((p,()),()),{e:=e,at_:=a},())
theorem rk{i:Nat}(h:i<Z.T.length):Z.S.nx i<Z.T.length:=by
 unfold Src.nx;split
 ·rename_i h';exact h'
 ·exact h
theorem MM{i:Nat}(h:i<Z.T.length):Z.S.K i=(Z.T[i].kind,Z.T[i].text):=by simp [Cx.S,h]
theorem Cq{i:Nat}{d:Int}(h:i<Z.T.length):Ev (fun n=>lG n (Z.st i d)) Z.T[i]:=by
 refine Ev.fn (fun n=>by simp only[lG,kG,Cd,mB];exact rfl) ?_
 grind [Ev.pure,Cx.st,qi]
theorem Xj(h:rU Z){i:Nat}{d:Int}(hi:i<Z.T.length):Ev (fun n=>oN n (Z.st i d)) (Z.S.F i):=by
 refine Ev.fn (fun n=>by simp only[oN,kG,C2,mB];exact rfl) ?_;refine Ev.bind (Cq hi) ?_;have h1:=h.at_ Z.T[i] (gC hi);have h2:=h.base
 grind [Cx.st,wrap_small,Cx.S,Ev.pure]
theorem Sv(h:rU Z){i:Nat}{d:Int}(hi:i<Z.T.length):Ev (fun n=>nT n (Z.st i d)) (Z.S.E i):=by
 refine Ev.fn (fun n=>by simp only[nT,kG,Em,mB];exact rfl) ?_;simp only[Cx.st];cases i with
 |zero=>grind [Cx.S,Ev.pure]
 |succ k=>
  have hk:k<Z.T.length:=by omega
  have h1:=h.at_ Z.T[k] (gC hk);have h2:=h.base;have hl:=h.len
  grind [wrap_small,qi,Cx.S,Ev.pure]
theorem aaX{i:Nat}{d:Int}(hi:i<Z.T.length)(k:Int)(s:Str):Ev (fun n=>sS n (Z.st i d) k s) (Z.S.is k s i):=by
 refine Ev.fn (fun n=>by simp only[sS,kG,Fz,mB];exact rfl) ?_;refine Ev.bind (Cq hi) ?_
 grind [Src.is,MM,Ev.pure]
theorem Ew{i:Nat}{d:Int}(hi:i<Z.T.length)(s:Str):Ev (fun n=>mF n (Z.st i d) s) (Z.S.sym s i):=by
 refine Ev.fn (fun n=>by simp only[mF,kG,Bq,mB];exact rfl) ?_;exact Ev.bind (aaX hi 2 s) Ev.pure
theorem MN(h:rU Z){i:Nat}{d:Int}(hi:i<Z.T.length)(e:Int):Ev (fun n=>me n e (Z.st i d)) (.pn (((Z.st i d,()),()),{e:=e,at_:=Z.S.F i},())):=by
 refine Ev.fn (fun n=>by simp only[me,kG,Bp,yD];exact rfl) ?_;exact Ev.bind (Xj h hi) Ev.pure
theorem DD(h:rU Z){i:Nat}{d:Int}(hi:i<Z.T.length)(c:Bool):lI (fun n=>lW n c (Z.st i d)) (RU Z d (bif c then .ok () i else Z.S.bad i)):=by
 refine lI.fn (fun n=>by simp only[lW,kG,Bv,yD];exact rfl) ?_;cases c with
 |true=>exact lI.pure ⟨hi,rfl⟩
 |false=>
  refine Ev.to (MN h hi 4) ?_;exact lI.pure ⟨_,rfl⟩
theorem Ab{i:Nat}{d:Int}(hi:i<Z.T.length)(hk:k<200):Ev (fun n=>lj n k (Z.st i d)) (.ok (((Z.st i d,()),()),())):=by
 refine Ev.fn (fun n=>by simp only[lj,kG,yN,yD];exact rfl) ?_
 grind [Ev.pure]
theorem yZ(h:rU Z){i:Nat}{d:Int}(hi:i<Z.T.length)(hk:200<=k):Ev (fun n=>lj n k (Z.st i d)) (.pn (((Z.st i d,()),()),{e:=7,at_:=Z.S.F i},())):=by
 refine Ev.fn (fun n=>by simp only[lj,kG,yN,yD];exact rfl) ?_;rw[jO hk];refine Ev.bind (MN h hi 7) ?_;simp only[CJ];exact Ev.pure
theorem ve(h:rU Z){i:Nat}{d:Int}(hi:i<Z.T.length):Ev (fun n=>kW n (Z.st i d)) ((Z.st (Z.S.nx i) d,()),(Z.S.K i).2,()):=by
 refine Ev.fn (fun n=>by simp only[kW,kG,C4,mB];exact rfl) ?_;refine Ev.bind (Cq hi) ?_;rw[MM hi];have hl:=h.len;have e:IntKind.i64.wrap ((i:Int)+1)=((i+1:Nat):Int):=kO (by omega);have e2:decide ((((i+1:Nat):Int))<(Z.T.length:Int))=decide (i+1<Z.T.length):=decide_eq_decide.2 (by omega);simp only[Cx.st,e,e2];have hlen:Z.S.len=Z.T.length:=rfl
 grind [Src.nx,Ev.pure]
theorem qP(h:rU Z){i:Nat}{d:Int}(hi:i<Z.T.length)(s:Str):Ev (fun n=>lC n (Z.st i d) s) ((Z.st (bif Z.S.sym s i then Z.S.nx i else i) d,()),Z.S.sym s i,()):=by
 refine Ev.fn (fun n=>by simp only[lC,kG,Bw,mB];exact rfl) ?_;refine Ev.bind (Ew hi s) ?_;cases Z.S.sym s i with
 |true=>exact Ev.bind (ve h hi) Ev.pure
 |false=>exact Ev.pure
theorem RU.step{d:Int}{rs:Rs Unit}{f:Unit->Nat->Rs α}{F:Nat->Option (PR (((jX×Unit)×Unit)×Unit) (((jX×Unit)×Unit)×(kr×Unit)))}{R:Type}{A:Nat->(((jX×Unit)×Unit)×Unit)->Option R}{B:Nat->(((jX×Unit)×Unit)×(kr×Unit))->Option R}{Q:Rs α->R->Prop}
 (h:lI F (RU Z d rs)) (hok: ∀j,rs= .ok () j->j<Z.T.length->lI (fun n=>A n (((Z.st j d,()),()),())) (Q (f () j))) (hpn: ∀p e a,rs= .er e a->lI (fun n=>B n (((p,()),()),{e:=e,at_:=a},())) (Q (.er e a)):=by intros;first|exact lI.pure ⟨_,rfl⟩|exact lI.pure ⟨_,_,rfl⟩):
 lI (fun n=>(F n).bind fun x=>CJ x (A n) (B n)) (Q (rs.bind f)):=by
 refine lI.bind h fun r hr=> ?_
 cases rs with
 |ok x j=>obtain⟨hj,rfl⟩:=hr;exact hok j rfl hj
 |er e a=>obtain⟨p,rfl⟩:=hr;exact hpn p e a rfl
theorem RP.step{d:Int}{R:Type}{A:Nat->(((jX×Unit)×Unit)×(β×Unit))->Option R}{B:Nat->(((jX×Unit)×Unit)×(kr×Unit))->Option R}{Q:Rs α->R->Prop}
 (h:lI F (RP Z d rs)) (hok: ∀x j,rs= .ok x j->j<Z.T.length->lI (fun n=>A n (((Z.st j d,()),()),x,())) (Q (f x j))) (hpn: ∀p e a,rs= .er e a->lI (fun n=>B n (((p,()),()),{e:=e,at_:=a},())) (Q (.er e a)):=by intros;first|exact lI.pure ⟨_,rfl⟩|exact lI.pure ⟨_,_,rfl⟩):
 lI (fun n=>(F n).bind fun x=>CJ x (A n) (B n)) (Q (rs.bind f)):=by
 refine lI.bind h fun r hr=> ?_
 cases rs with
 |ok x j=>obtain⟨hj,rfl⟩:=hr;exact hok x j rfl hj
 |er e a=>obtain⟨p,rfl⟩:=hr;exact hpn p e a rfl
theorem uO(h:rU Z){i:Nat}{d:Int}(hi:i<Z.T.length)(s:Str):lI (fun n=>lZ n s (Z.st i d)) (RU Z d (Z.S.take s i)):=by
 refine lI.fn (fun n=>by simp only[lZ,kG,Dp,yD];exact rfl) ?_
 have go: ∀c:Bool,lI (fun n=>(lW n c (Z.st i d)).bind fun x=>CJ x (fun x=>(kW n x.fst.fst.fst).bind fun x=>some (PR.ok (((x.fst.fst,()),()),()))) fun y=>some (PR.pn (((y.fst.fst.fst,()),()),y.snd.fst,())))
  (RU Z d (bif c then .ok () (Z.S.nx i) else Z.S.bad i)):=by
  intro c;refine lI.bind (DD h hi c) fun r hr=> ?_
  cases c with
  |true=>
   obtain⟨_,rfl⟩:=hr;exact Ev.tot (Ev.bind (ve h hi) Ev.pure) ⟨rk hi,rfl⟩
  |false=>
   obtain⟨p,rfl⟩:=hr;exact lI.pure ⟨p,rfl⟩
 refine Ev.to (Ew hi s) ?_;unfold Src.take;cases hs:Z.S.sym s i with
 |true=>exact go true
 |false=>
  simp only[jN,gz];refine Ev.to (aaX hi 3 s) ?_;exact go _
end
section
variable {Z:Cx}
theorem aqT: ∀s:Str,gJ s [46]=s.contains 46:=by
 intro s;induction s with
 |nil=>rfl
 |cons x r ih=>
  grind [gJ,il]
theorem aty(s:Str)(h:s.length<=100000):Ev (fun n=>strings_Contains n s [46]) (an9 s):=by
 refine⟨1,fun n hn=> ?_⟩;obtain⟨k,rfl⟩: ∃k,n=k+1:=⟨n-1,by omega⟩;show(bif decide (s.length<4294967281) then some (gJ s [46]) else none)=_;rw[jO (by omega),aqT];rfl
theorem abQ(h:rU Z){i:Nat}{d:Int}(hi:i<Z.T.length):Ev (fun n=>sU n (Z.st i d)) (Z.S.simple i):=by
 refine Ev.fn (fun n=>by simp only[sU,kG,Bi,mB];exact rfl) ?_;refine Ev.bind (Cq hi) ?_;unfold Src.simple;rw[MM hi];cases Z.T[i].kind==0 with
 |true=>
  refine Ev.bind (aty _ (h.at_ _ (gC hi)).2.2) ?_;rw[gw];exact Ev.pure
 |false=>exact Ev.pure
theorem MO(h:rU Z){i:Nat}{d:Int}(hi:i<Z.T.length):Ev (fun n=>qq n (Z.st i d)) (Z.S.isVar i):=by
 refine Ev.fn (fun n=>by simp only[qq,kG,xJ,mB];exact rfl) ?_;refine Ev.bind (abQ h hi) ?_;unfold Src.isVar;cases Z.S.simple i with
 |true=>exact Ev.pure
 |false=>rw[gz];exact Ev.bind (Ew hi [95]) Ev.pure
theorem taken(h:rU Z){i:Nat}{d:Int}(hi:i<Z.T.length){R:Type}{A:Nat->jX×Unit->Str->Option R}{B:Nat->(((jX×Unit)×Unit)×(kr×Unit))->Option R}{Q:Rs α->R->Prop}{x:Rs α}
 (hok:lI (fun n=>A n (Z.st (Z.S.nx i) d,()) (Z.S.K i).2) (Q x)) (hpn: ∀p e a,lI (fun n=>B n (((p,()),()),{e:=e,at_:=a},())) (Q (.er e a))):
 lI (fun n=>(lW n c (Z.st i d)).bind fun x=>CJ x (fun x=>(kW n x.fst.fst.fst).bind fun x=>A n x.fst x.snd.fst) (B n)) (Q (bif c then x else Z.S.bad i)):=by
 refine lI.bind (DD h hi c) fun r hr=> ?_
 cases c with
 |true=>
  obtain⟨_,rfl⟩:=hr;exact lI.bind (Ev.tot (ve h hi) rfl) fun r hr=>by subst hr;exact hok
 |false=>
  obtain⟨p,rfl⟩:=hr;exact hpn _ _ _
theorem Xk(h:rU Z){i:Nat}{d:Int}(hi:i<Z.T.length):lI (fun n=>oo n (Z.st i d)) (RP Z d (Z.S.var i)):=by
 refine lI.fn (fun n=>by simp only[oo,kG,zw,yD];exact rfl) ?_;refine Ev.to (MO h hi) ?_;exact taken (A:=fun n p s=>some (PR.ok (((p,()),s,())))) (Q:=RP Z d) h hi (lI.pure ⟨rk hi,rfl⟩) fun p e a=>lI.pure ⟨p,rfl⟩
theorem ahm(h:rU Z){i:Nat}{d:Int}(hi:i<Z.T.length):lI (fun n=>pI n (Z.st i d)) (RP Z d (Z.S.ML i)):=by
 refine lI.fn (fun n=>by simp only[pI,kG,xK,yD];exact rfl) ?_;refine Ev.to (abQ h hi) ?_;exact taken (A:=fun n p s=>some (PR.ok (((p,()),s,())))) (Q:=RP Z d) h hi (lI.pure ⟨rk hi,rfl⟩) fun p e a=>lI.pure ⟨p,rfl⟩
theorem alp(h:rU Z){i:Nat}{d:Int}(hi:i<Z.T.length):lI (fun n=>xL n (Z.st i d)) (RP Z d (Z.S.name i)):=by
 refine lI.fn (fun n=>by simp only[xL,kG,Dq,yD];exact rfl) ?_;refine Ev.to (Cq hi) ?_;unfold Src.name;rw[show(Z.S.K i).1=Z.T[i].kind by rw[MM hi]];exact taken (A:=fun n p s=>some (PR.ok (((p,()),s,())))) (Q:=RP Z d) h hi (lI.pure ⟨rk hi,rfl⟩) fun p e a=>lI.pure ⟨p,rfl⟩
theorem awX{s:Str}(h:s.length<=18/\Lib.atoi s=some (X4 s)):Ev (fun n=>strconv_Atoi n s) (X4 s,()):=by
 refine⟨1,fun n hn=> ?_⟩;obtain⟨k,rfl⟩: ∃k,n=k+1:=⟨n-1,by omega⟩
 grind [strconv_Atoi]
theorem adB(h:rU Z){i:Nat}{d:Int}(hi:i<Z.T.length):lI (fun n=>p5 n (Z.st i d)) (RP Z d (Z.S.num i)):=by
 refine lI.fn (fun n=>by simp only[p5,kG,Bx,yD];exact rfl) ?_;refine Ev.to (Cq hi) ?_;unfold Src.num;rw[show(Z.S.K i).1=Z.T[i].kind by rw[MM hi]];refine lI.bind (DD h hi _) fun r hr=> ?_
 cases hk:Z.T[i].kind==1 with
 |true=>
  rw[hk] at hr;obtain⟨_,rfl⟩:=hr;refine Ev.to (ve h hi) ?_;rw[MM hi];refine Ev.to (awX (h.num _ (gC hi) (jS.1 hk)).1) ?_;exact lI.pure ⟨rk hi,rfl⟩
 |false=>
  rw[hk] at hr;obtain⟨p,rfl⟩:=hr;exact lI.pure ⟨p,rfl⟩
theorem aqU(h:rU Z){d:Int}: ∀(m:Nat)(out:List Str)(i:Nat),i<Z.T.length->m+out.length=200->lg (fun n q=>ub n q (Z.st i d) out) (RP Z d (Z.S.Gx m out i)):=by
 intro m;induction m with
 |zero=>
  intro out i hi hm;refine lg.lp (fun n m=>by simp only[B2,q7];exact rfl) ?_;refine Ev.DC (MO h hi) ?_;unfold Src.Gx;cases Z.S.isVar i with
  |true=>
   refine Ev.DC (yZ h hi (k:=(out.length:Int)) (by omega)) ?_;exact lg.pure ⟨_,rfl⟩
  |false=>exact lg.pure ⟨hi,rfl⟩
 |succ m ih=>
  intro out i hi hm;refine lg.lp (fun n m=>by simp only[B2,q7];exact rfl) ?_;refine Ev.DC (MO h hi) ?_;unfold Src.Gx;cases Z.S.isVar i with
  |true=>
   refine Ev.DC (Ab hi (k:=(out.length:Int)) (by omega)) ?_;refine Ev.DC (ve h hi) ?_
   grind [rk]
  |false=>exact lg.pure ⟨hi,rfl⟩
theorem atz(h:rU Z){i:Nat}{d:Int}(hi:i<Z.T.length):lI (fun n=>we n (Z.st i d)) (RP Z d (Z.S.vars i)):=by
 refine lI.fn (fun n=>by simp only[we,kG,yu];exact rfl) ?_;refine RP.step (Xk h hi) (fun s j _ hj=> ?_);refine lI.zH (F:=fun n q=>xM n q [s] (Z.st j d)) ?_;refine lg.lp (fun n m=>by simp only[xM,xb];exact rfl) ?_;refine Ev.DC (MO h hj) ?_;unfold Src.Gx;cases Z.S.isVar j with
 |true=>
  refine Ev.DC (Ab hj (k:=1) (by omega)) ?_;refine Ev.DC (ve h hj) ?_
  grind [aqU,rk]
 |false=>exact lg.pure ⟨hj,rfl⟩
end
section
variable {Z:Cx}
def awY(n:Int)(a:kf):kf:={name:=a.name,plus:=a.plus+n}
def awZ(n:Int)(a:kf):Bool:=decide (a.plus+n<=999999)
theorem aqV{d:Int}(hj:j<Z.T.length)(a:Int)(hk:0<=k/\k<=999999): ∀(r pre:List kf),pre.length+r.length<=1000000->(∀x∈r,0<=x.plus/\x.plus<=999999)->
 lg (fun n q=>qf (kS n) n q a k ((pre.length+r.length:Nat):Int) (pre.length:Int) (Z.st j d) (pre++r)) (RP Z d (bif r.all (awZ k) then .ok (pre++r.map (awY k)) j else .er 5 a)):=by
 intro r;induction r with
 |nil=>
  intro pre _ _;refine lg.lp (fun n m=>by simp only[EU,ua,qg,Cv];exact rfl) ?_;rw[jP (by simp)];exact lg.pure ⟨hj,by simp⟩
 |cons x r ih=>
  intro pre hl hx;refine lg.lp (fun n m=>by simp only[EU,ua,qg,Cv];exact rfl) ?_;have hlen:(x::r).length=r.length+1:=rfl;have hx1:=hx x (by simp);have e1:decide ((pre.length:Int)<((pre.length+(x::r).length:Nat):Int))=true:=jO (by omega);have hlt:pre.length<(pre++x::r).length:=by simp
  have e2:wq (pre++x::r) (pre.length:Int)=some x:=by rw[qi hlt];simp
  have e3:(pre++x::r)[pre.length]? =some x:=by simp
  simp only[e1,e2,e3,jM,gB,gD,jO hlt,jO (Int.natCast_nonneg pre.length),Bool.and_self];rw[wrap_small (n:=x.plus+k) (by omega) (by omega)]
  have e6:(x::r).all (awZ k)=(!decide (999999<x.plus+k)&&r.all (awZ k)):=by
   grind [awZ]
  rw[e6];cases decide (999999<x.plus+k) with
  |true=>exact lg.pure ⟨_,rfl⟩
  |false=>
   simp only[jN,gE,gw];rw[kO (by omega)];have:=ih (pre++[awY k x]) (by grind) (fun y hy=>hx y (by simp [hy]));rw[gO,gZ] at this;rw[show(pre++x::r).set pre.length {name:=x.name,plus:=x.plus+k}=pre++[awY k x]++r by simp [awY]];rw[show pre.length+(x::r).length=pre.length+1+r.length by omega]
   grind
end
def Src.Ec(S:Src)(e a:Int):Prop:=e≠0/\ ∃i j,i<S.len/\j<S.len/\S.F i<=a/\a<=S.F j
def Rs.IJ(S:Src)(P:α->Nat->Prop):Rs α->Prop
 | .ok x j=>P x j
 | .er e a=>S.Ec e a
section
variable {S:Src}
theorem Rs.IJ.er{e:Int}{i:Nat}(hi:i<S.len)(he:e≠0:=by decide):(Rs.er e (S.F i):Rs α).IJ S P:=⟨he,i,i,hi,hi,gu _,gu _⟩
theorem Rs.IJ.bind{Q:β->Nat->Prop}{r:Rs α}{f:α->Nat->Rs β}(h:r.IJ S P)(hf: ∀x j,P x j->(f x j).IJ S Q):(r.bind f).IJ S Q:=by
 cases r with
 |ok x j=>exact hf x j h
 |er e a=>exact h
theorem Rs.IJ.imp {Q:α->Nat->Prop}{r:Rs α}(h:r.IJ S P)(hf: ∀x j,P x j->Q x j):r.IJ S Q:=by
 cases r with
 |ok x j=>exact hf x j h
 |er e a=>exact h
theorem Rs.IJ.p9{r s:Rs α}(h1:c=true->r.IJ S P)(h2:c=false->s.IJ S P):(bif c then r else s).IJ S P:=by
 grind
end
structure Zy(S:Src):Prop where
 last: ∀i,i<S.len->(S.K i).1≠4->i+1<S.len
 num: ∀i,i<S.len->(S.K i).1=1->0<=X4 (S.K i).2/\X4 (S.K i).2<=999999
namespace Zy
variable {S:Src} (h:Zy S)
include h
theorem nx{i:Nat}(hi:i<S.len)(hk:(S.K i).1≠4):S.nx i=i+1/\i+1<S.len:=by
 have:=h.last i hi hk
 grind [Src.nx]
theorem isN{i:Nat}{s:Str}(hi:i<S.len)(hs:S.is k s i=true)(hk:k≠4):S.nx i=i+1/\i+1<S.len:=by
 unfold Src.is at hs;rw[gA,jS] at hs;exact h.nx hi (by rw[hs.1];exact hk)
theorem I6{i:Nat}{s:Str}(hi:i<S.len)(hs:S.sym s i=true):S.nx i=i+1/\i+1<S.len:=h.isN hi hs (by decide)
theorem aoa{i:Nat}{s:Str}(hi:i<S.len)(hs:S.key s i=true):S.nx i=i+1/\i+1<S.len:=h.isN hi hs (by decide)
theorem aiQ{i:Nat}(hi:i<S.len)(hs:S.simple i=true):S.nx i=i+1/\i+1<S.len:=by
 unfold Src.simple at hs;rw[gA,jS] at hs;exact h.nx hi (by rw[hs.1];decide)
theorem aBE{i:Nat}(hi:i<S.len)(hs:S.isVar i=true):S.nx i=i+1/\i+1<S.len:=by
 unfold Src.isVar at hs;rw[iq] at hs;rcases hs with hs|hs
 ·exact h.aiQ hi hs
 ·exact h.I6 hi hs
theorem take{i:Nat}(hi:i<S.len)(s:Str):(S.take s i).IJ S fun _ j=>j=i+1/\j<S.len:=by
 refine .p9 (fun hc=> ?_) fun _=> .er hi
 rw[iq] at hc;rcases hc with hc|hc
 ·obtain⟨e,hl⟩:=h.I6 hi hc;exact⟨e,by rw[e];exact hl⟩
 ·obtain⟨e,hl⟩:=h.aoa hi hc;exact⟨e,by rw[e];exact hl⟩
theorem var{i:Nat}(hi:i<S.len):(S.var i).IJ S fun _ j=>j=i+1/\j<S.len:=by
 refine .p9 (fun hc=> ?_) fun _=> .er hi
 obtain⟨e,hl⟩:=h.aBE hi hc;exact⟨e,by rw[e];exact hl⟩
theorem ML{i:Nat}(hi:i<S.len):(S.ML i).IJ S fun _ j=>j=i+1/\j<S.len:=by
 refine .p9 (fun hc=> ?_) fun _=> .er hi
 obtain⟨e,hl⟩:=h.aiQ hi hc;exact⟨e,by rw[e];exact hl⟩
theorem name{i:Nat}(hi:i<S.len):(S.name i).IJ S fun _ j=>j=i+1/\j<S.len:=by
 refine .p9 (fun hc=> ?_) fun _=> .er hi
 obtain⟨e,hl⟩:=h.nx hi (by rw[jS.1 hc];decide);exact⟨e,by rw[e];exact hl⟩
theorem number{i:Nat}(hi:i<S.len):(S.num i).IJ S fun n j=>(0<=n/\n<=999999)/\j=i+1/\j<S.len:=by
 refine .p9 (fun hc=> ?_) fun _=> .er hi
 have hk:=jS.1 hc;obtain⟨e,hl⟩:=h.nx hi (by rw[hk];decide);exact⟨h.num i hi hk,e,by rw[e];exact hl⟩
theorem Gx: ∀(m:Nat)(out:List Str)(i:Nat),i<S.len->(S.Gx m out i).IJ S fun l j=>l.length<=out.length+m/\l.length+i=out.length+j/\i<=j/\j<S.len
 |0,out,i,hi=>by
  exact .p9 (fun _=> .er hi) fun _=>⟨gv _,rfl,gv _,hi⟩
 |m+1,out,i,hi=>by
  refine .p9 (fun hc=> ?_) fun _=>⟨Nat.le_add_right _ _,rfl,gv _,hi⟩
  obtain⟨e,hl⟩:=h.aBE hi hc;rw[e];refine(Gx m _ _ hl).imp fun l j ⟨h1,h2,h3,h4⟩=> ?_
  grind
theorem vars{i:Nat}(hi:i<S.len):(S.vars i).IJ S fun l j=>1<=l.length/\l.length<=200/\i<j/\j<S.len:=by
 refine(h.var hi).bind fun s k ⟨e,hk⟩=> ?_
 refine(h.Gx 199 [s] _ hk).imp fun l j ⟨h1,h2,h3,h4⟩=> ?_
 grind
theorem listed{α:Type}{one:Nat->Rs (List α)}{P:α->Prop}(h1: ∀i,i<S.len->(one i).IJ S fun l j=>l.length+i<=j/\i<j/\j<S.len/\ ∀x∈l,P x): ∀(m:Nat)(out:List α)(i:Nat),i<S.len->(∀x∈out,P x)->
 (S.listed one m out i).IJ S fun l j=>l.length+i<=out.length+j/\i<j/\j<S.len/\ ∀x∈l,P x
 |0,_,_,hi,_=> .er hi
 |m+1,out,i,hi,ho=>by
  refine(h1 i hi).bind fun l j ⟨k1,k2,k3,k4⟩=> ?_
  have hall: ∀x∈out++l,P x:=fun x hx=>(gI.1 hx).elim (ho x) (k4 x)
  refine .p9 (fun hc=> ?_) fun _=>⟨by rw[gO];omega,k2,k3,hall⟩
  obtain⟨e,hl⟩:=h.I6 k3 hc;rw[e];refine(listed h1 m _ _ hl hall).imp fun l' j' ⟨q1,q2,q3,q4⟩=> ?_
  grind
def SmA(a:kf):Prop:=0<=a.plus/\a.plus<=999999
theorem plus{out:List kf}{i:Nat}(hi:i<S.len)(ho: ∀x∈out,SmA x):(S.plus out i).IJ S fun l j=>l.length=out.length/\i<=j/\j<S.len/\ ∀x∈l,SmA x:=by
 refine .p9 (fun hc=> ?_) fun _=>⟨rfl,gv _,hi,ho⟩
 obtain⟨e,hl⟩:=h.I6 hi hc;rw[e];refine(h.number hl).bind fun n j ⟨hn,e2,hj⟩=> ?_
 refine .p9 (fun hall=>⟨by rw[List.length_map],by omega,hj,fun x hx=> ?_⟩) fun _=> .er hl
 grind [SmA]
theorem lz: ∀(f i:Nat),i<S.len->(S.lz f i).IJ S fun l j=>l.length+i<=j/\i<j/\j<S.len/\ ∀x∈l,SmA x
 |0,_,hi=> .er hi
 |f+1,i,hi=>by
  refine Rs.IJ.bind (P:=fun l j=>l.length+i<=j/\i<j/\j<S.len/\ ∀x∈l,SmA x) ?_ fun l j ⟨k1,k2,k3,k4⟩=>(h.plus k3 k4).imp fun l' j' ⟨q1,q2,q3,q4⟩=>⟨by omega,by omega,q3,q4⟩
  refine .p9 (fun hc=> ?_) fun _=> .p9 (fun hc=> ?_) fun _=> ?_
  ·refine(h.number hi).bind fun n j ⟨hn,e,hj⟩=> ?_
   exact⟨by simp;omega,by omega,hj,fun x hx=>by rw[gG.1 hx];exact hn⟩
  ·rw[gA,gA] at hc;obtain⟨c1,c2,c3⟩:=hc;obtain⟨e,hl⟩:=h.isN hi c1 (by decide);rw[e];obtain⟨e2,hl2⟩:=h.I6 hl c3;rw[e2];refine(h.listed (fun i hi=>lz f i hi) 200 [] _ hl2 (by simp)).bind fun l j ⟨q1,q2,q3,q4⟩=> ?_
   refine(h.take q3 _).bind fun _ k ⟨e3,hk⟩=> ?_
   rw[gR] at q1;exact⟨by omega,by omega,hk,q4⟩
  ·refine(h.ML hi).bind fun s j ⟨e,hj⟩=> ?_
   exact⟨by simp;omega,by omega,hj,fun x hx=>by rw[gG.1 hx];exact⟨gu 0,(by decide:(0:Int)<=999999)⟩⟩
end Zy
theorem Rs.bind_assoc {γ:Type}(r:Rs α)(f:α->Nat->Rs β)(g:β->Nat->Rs γ):(r.bind f).bind g=r.bind fun x j=>(f x j).bind g:=by cases r<;>rfl
section
variable {Z:Cx}
def RL(Z:Cx)(d:Int):Rs (List α)->PR (((jX×Unit)×(Unit×(Unit×((List α)×Unit))))×Unit) (((jX×Unit)×(Unit×(Unit×((List α)×Unit))))×(kr×Unit))->Prop
 | .ok l j,r=>j<Z.T.length/\r= .ok (((Z.st j d,()),(),(),l,()),())
 | .er e a,r=> ∃p l,r= .pn (((p,()),(),(),l,()),{e:=e,at_:=a},())
theorem afe(h:rU Z)(k:Zy Z.S){d:Int}(hj:j<Z.T.length){l:List kf}(hl:l.length<=1000000)(hx: ∀x∈l,Zy.SmA x){L:Int}(hL:L=(l.length:Int)):
 lI (fun n=>(lC n (Z.st j d) [43]).bind fun x_1=>bif x_1.snd.fst then(oN n x_1.fst.fst).bind fun x_2=>(p5 n x_1.fst.fst).bind fun x_3=>
  CJ x_3 (fun x_4=>qf (kS n) n n x_2 x_4.snd.fst L 0 x_4.fst.fst.fst l) (fun y=>some (PR.pn (((y.fst.fst.fst,()),()),y.snd.fst,()))) else some (PR.ok (((x_1.fst.fst,()),()),l,()))) (RP Z d (Z.S.plus l j)):=by
 subst hL;refine Ev.to (qP h hj [43]) ?_;unfold Src.plus;cases hs:Z.S.sym [43] j with
 |false=>exact lI.pure ⟨hj,rfl⟩
 |true=>
  simp only[jM];have hj2:=rk hj;refine Ev.to (Xj h hj2) ?_;refine RP.step (adB h hj2) (fun n q hq hql=> ?_);have hn:=k.number (i:=Z.S.nx j) hj2;rw[hq] at hn;have:=aqV (d:=d) hql (Z.S.F (Z.S.nx j)) hn.1 l [] (by simpa using hl) hx;simp only[gR,Nat.zero_add,List.nil_append,Int.natCast_zero] at this;exact lI.zH (F:=fun n q'=>qf (kS n) n q' (Z.S.F (Z.S.nx j)) _ (l.length:Int) 0 (Z.st q d) l) this
theorem aw0(h:rU Z)(k:Zy Z.S){f:Nat}{d:Int}(hA: ∀i,i<Z.T.length->Z.T.length-i<=f->lI (fun n=>oe n (Z.st i d)) (RP Z d (Z.S.lz f i))):
 ∀ (m:Nat) (out:List kf) (i:Nat),i<Z.T.length->m<=200->out.length<=i->Z.T.length-i<=f->
   lg (fun n q=>nL (kS n) n q ((200-m:Nat):Int) (Z.st i d) out) (RL Z d (Z.S.listed (Z.S.lz f) m out i)):=by
 intro m;induction m with
 |zero=>
  intro out i hi _ ho hf;refine lg.lp (fun n m=>by simp only[rS,my,qg,Cv];exact rfl) ?_;refine Ev.DC (yZ h hi (k:=((200-0:Nat):Int)) (by omega)) ?_;exact lg.pure ⟨_,_,rfl⟩
 |succ m ih=>
  intro out i hi hm ho hf;have hlen:=h.len;refine lg.lp (fun n m=>by simp only[rS,my,qg,Cv];exact rfl) ?_;refine Ev.DC (Ab hi (k:=((200-(m+1):Nat):Int)) (by omega)) ?_;have hall:=k.lz f i hi
  refine lg.lQ (P:=fun r=>match Z.S.lz f i with
   | .ok l j=>j<Z.T.length/\r=PR.ok (((),(),out++l,(Z.st j d,()),()),())
   | .er e a=> ∃p,r=PR.pn (((),(),out,(p,()),()),{e:=e,at_:=a},())) ?_ fun r hr=> ?_
  ·refine lI.fn (fun n=>by simp only[Qt,vY,qg,yD];exact rfl) ?_;refine lI.bind (hA i hi hf) fun r hr=> ?_
   cases hq:Z.S.lz f i with
   |er e a=>
    rw[hq] at hr;obtain⟨p,rfl⟩:=hr;exact lI.pure ⟨p,rfl⟩
   |ok l j=>
    rw[hq] at hr hall;obtain⟨hj,rfl⟩:=hr;obtain⟨q1,q2,q3,q4⟩:=hall;have q3:j<Z.T.length:=q3;simp only[CJ,jO (show(out.length+l.length)*24<=17592186044416 by omega),jM];exact lI.pure ⟨hj,rfl⟩
  ·unfold Src.listed;cases hq:Z.S.lz f i with
   |er e a=>
    rw[hq] at hr;obtain⟨p,rfl⟩:=hr;exact lg.pure ⟨_,_,rfl⟩
   |ok l j=>
    rw[hq] at hr hall;obtain⟨hj,rfl⟩:=hr;obtain⟨q1,q2,q3,q4⟩:=hall;refine Ev.DC (qP h hj [44]) ?_;simp only[Rs.bind];cases hs:Z.S.sym [44] j with
    |true=>
     obtain⟨e,hl⟩:=k.I6 hj hs
     grind [wrap_small,rk]
    |false=>exact lg.pure ⟨hj,rfl⟩
end
theorem Rs.aiR(x:α)(j:Nat)(f:α->Nat->Rs β):(Rs.ok x j).bind f=f x j:=rfl
section
variable {Z:Cx}
theorem aob(h:rU Z)(k:Zy Z.S){d:Int}{i:Nat}(hi:i<Z.T.length):
 lI (fun n=>(pI n (Z.st i d)).bind fun x=>CJ x (fun x=>(lC n x.fst.fst.fst [43]).bind fun x_1=>bif x_1.snd.fst then(oN n x_1.fst.fst).bind fun x_2=>(p5 n x_1.fst.fst).bind fun x_3=>
  CJ x_3 (fun x_4=>qf (kS n) n n x_2 x_4.snd.fst 1 0 x_4.fst.fst.fst [{name:=x.snd.fst,plus:=0}]) (fun y=>some (PR.pn (((y.fst.fst.fst,()),()),y.snd.fst,()))) else some (PR.ok (((x_1.fst.fst,()),()),[{name:=x.snd.fst,plus:=0}],()))) fun y=>some (PR.pn (((y.fst.fst.fst,()),()),y.snd.fst,())))
  (RP Z d ((Z.S.ML i).bind fun s j=>Z.S.plus [{name:=s,plus:=0}] j)):=by
 refine RP.step (ahm h hi) (fun s j _ hj=> ?_);exact afe h k hj (by simp) (fun x hx=>by rw[gG.1 hx];exact⟨gu 0,(by decide:(0:Int)<=999999)⟩) rfl
theorem aqW (h:rU Z) (k:Zy Z.S) {d:Int}: ∀ (f i:Nat),i<Z.T.length->Z.T.length-i<=f->lI (fun n=>oe n (Z.st i d)) (RP Z d (Z.S.lz f i)):=by
 intro f;induction f with
 |zero=>intro i hi hf;omega
 |succ f ih=>
  intro i hi hf;have hlen:=h.len;refine lI.fn (fun n=>by simp only[Uu,xY,qg,yD];exact rfl) ?_;refine Ev.to (Cq hi) ?_;unfold Src.lz;rw[show(Z.S.K i).1=Z.T[i].kind by rw[MM hi]];cases hk:Z.T[i].kind==1 with
  |true=>
   simp only[jM];rw[Rs.bind_assoc];refine RP.step (adB h hi) (fun n j hq hj=> ?_);have hn:=k.number (i:=i) hi;rw[hq] at hn;exact afe h k hj (by simp) (fun x hx=>by rw[gG.1 hx];exact hn.1) rfl
  |false=>
   simp only[jN];refine Ev.to (aaX hi 0 [109,97,120]) ?_;have hsn:=aob (d:=d) h k hi;cases hmx:Z.S.is 0 [109,97,120] i with
   |false=>
    simp only[jN,iv];rw[Rs.bind_assoc];exact hsn
   |true=>
    have hmi:=k.isN hi hmx (by decide);have hi1:i+1<Z.T.length:=hmi.2;have e1:IntKind.i64.wrap ((i:Int)+1)=((i+1:Nat):Int):=kO (by omega);have e2:decide (((i+1:Nat):Int)<(Z.T.length:Int))=true:=jO (by omega);have e3:decide (i+1<Z.S.len)=true:=jO hi1;simp only[jM,Cx.st,e1,e2,qi hi1,gB,e3,gw];have e4:Z.S.sym [40] (i+1)=((Z.T[i+1].kind==2)&&(Z.T[i+1].text==[40])):=by unfold Src.sym Src.is;rw[MM hi1]
    cases hk2:Z.T[i+1].kind==2 with
    |false=>
     rw[hk2,iv] at e4;rw[e4];simp only[jN];rw[Rs.bind_assoc];exact hsn
    |true=>
     cases ht2:Z.T[i+1].text==[40] with
     |false=>
      rw[hk2,ht2] at e4;rw[e4];simp only[jM,jN,Bool.and_false];rw[Rs.bind_assoc];exact hsn
     |true=>
      rw[hk2,ht2] at e4;have e4:Z.S.sym [40] (i+1)=true:=e4;rw[e4];simp only[jM];have hs1:=k.I6 hi1 e4;refine Ev.to (ve (d:=d) h hi) ?_;rw[hmi.1];refine Ev.to (ve (d:=d) h hi1) ?_;rw[hs1.1];have hi2:i+1+1<Z.T.length:=hs1.2;have ax6:=k.listed (fun i hi=>k.lz f i hi) 200 [] _ hi2 (by simp);rw[Rs.bind_assoc];refine lI.bind (P:=RL Z d (Z.S.listed (Z.S.lz f) 200 [] (i+1+1))) ?_ fun r hr=> ?_
      ·refine lI.fn (fun n=>by simp only[AJ,nX,qg,yD];exact rfl) ?_
       grind [lI.zH,aw0]
      ·cases hq:Z.S.listed (Z.S.lz f) 200 [] (i+1+1) with
       |er e a=>
        rw[hq] at hr;obtain⟨p,l,rfl⟩:=hr;exact lI.pure ⟨_,rfl⟩
       |ok l j=>
        rw[hq] at hr ax6;obtain⟨hj,rfl⟩:=hr;obtain⟨q1,q2,q3,q4⟩:=ax6;have q3:j<Z.T.length:=q3;simp only[anT,Rs.aiR];rw[Rs.bind_assoc];refine RU.step (uO h hj [41]) (fun q hq' hql=> ?_);exact afe h k hql (by rw[gR] at q1;omega) q4 rfl
theorem ahn(h:rU Z)(k:Zy Z.S){d:Int}{i:Nat}(hi:i<Z.T.length):lI (fun n=>wG n (Z.st i d)) (RP Z d (Z.S.level i)):=by
 refine lI.fn (fun n=>by simp only[wG,kG,Cn,yD];exact rfl) ?_;refine Ev.to (qP h hi [95]) ?_;unfold Src.level;cases hs:Z.S.sym [95] i with
 |true=>exact lI.pure ⟨rk hi,rfl⟩
 |false=>
  simp only[jN];refine RP.step (aqW h k Z.S.len i hi (Nat.sub_le _ _)) (fun l j _ hj=>lI.pure ⟨hj,rfl⟩)
theorem aw1(h:rU Z)(k:Zy Z.S){d:Int}{i:Nat}(hi:i<Z.T.length):lI (fun n=>CF n (Z.st i d)) (RP Z d (Z.S.one i)):=by
 refine lI.fn (fun n=>by simp only[CF,kG,Eu,yD];exact rfl) ?_;refine Ev.to (Cq hi) ?_;unfold Src.one;rw[show(Z.S.K i).1=Z.T[i].kind by rw[MM hi]];cases hk:Z.T[i].kind==1 with
 |true=>
  simp only[jM];exact RP.step (adB h hi) (fun l j _ hj=>lI.pure ⟨hj,rfl⟩)
 |false=>
  simp only[jN];refine Ev.to (abQ h hi) ?_;cases hs:Z.S.simple i with
  |true=>
   simp only[jM];refine Ev.to (ve h hi) ?_;exact lI.pure ⟨rk hi,rfl⟩
  |false=>
   simp only[jN];refine Ev.to (qP h hi [40]) ?_;cases ho:Z.S.sym [40] i with
   |true=>
    simp only[jM];refine RP.step (ahn h k (rk hi)) (fun l j _ hj=> ?_);exact RU.step (uO h hj [41]) (fun q _ hql=>lI.pure ⟨hql,rfl⟩)
   |false=>
    simp only[jN];refine Ev.to (qP h hi [95]) ?_;refine lI.pure ⟨?_,rfl⟩;cases Z.S.sym [95] i with
    |true=>exact rk hi
    |false=>exact hi
end
def LSm(l:j7):Prop:=l.lz.length<=200000
namespace Zy
variable {S:Src} (h:Zy S)
include h
theorem level(hl:S.len<=100000){i:Nat}(hi:i<S.len):(S.level i).IJ S fun x j=>i<j/\j<S.len/\LSm x:=by
 unfold Src.level;refine .p9 (fun hc=> ?_) fun _=> ?_
 ·obtain⟨e,hj⟩:=h.I6 hi hc;rw[e];exact⟨by omega,hj,gx _⟩
 ·refine(h.lz S.len i hi).bind fun l j ⟨h1,h2,h3,h4⟩=>⟨h2,h3,?_⟩
  unfold LSm;simp only;omega
theorem one(hl:S.len<=100000){i:Nat}(hi:i<S.len):(S.one i).IJ S fun x j=>i<=j/\j<S.len/\LSm x:=by
 unfold Src.one;refine .p9 (fun hc=> ?_) fun _=> .p9 (fun hc=> ?_) fun _=> .p9 (fun hc=> ?_) fun _=> ?_
 ·exact(h.number hi).bind fun n j ⟨hn,e,hj⟩=>⟨by omega,hj,(by decide:1<=200000)⟩
 ·obtain⟨e,hj⟩:=h.aiQ hi hc;rw[e];exact⟨by omega,hj,(by decide:1<=200000)⟩
 ·obtain⟨e,hj⟩:=h.I6 hi hc;rw[e];refine(h.level hl hj).bind fun l j ⟨h1,h2,h3⟩=> ?_
  exact(h.take h2 _).bind fun _ k ⟨e,hk⟩=>⟨by omega,hk,h3⟩
 ·cases hs:S.sym [95] i with
  |true=>
   obtain⟨e,hj⟩:=h.I6 hi hs;rw[jM,e];exact⟨by omega,hj,gx _⟩
  |false=>exact⟨gv _,hi,gx _⟩
theorem azB(hl:S.len<=100000){i:Nat}(hi:i<S.len):((S.level i).bind fun l j=>Rs.ok [l] j).IJ S fun l j=>l.length+i<=j/\i<j/\j<S.len/\ ∀x∈l,LSm x:=
 (h.level hl hi).bind fun l j ⟨h1,h2,h3⟩=>⟨by simp;omega,h1,h2,fun x hx=>by grind⟩
theorem levels(hl:S.len<=100000){i:Nat}(hi:i<S.len):(S.levels i).IJ S fun l j=>i<=j/\j<S.len/\l.length<=100000/\ ∀x∈l,LSm x:=by
 unfold Src.levels;refine .p9 (fun hc=> ?_) fun _=>⟨gv _,hi,by simp,by simp⟩
 obtain⟨e,hj⟩:=h.I6 hi hc;rw[e];refine(h.listed (fun i hi=>h.azB hl hi) 200 [] _ hj (by simp)).bind fun l j ⟨q1,q2,q3,q4⟩=> ?_
 rw[gR] at q1;exact(h.take q3 _).bind fun _ k ⟨e,hk⟩=>⟨by omega,hk,by omega,q4⟩
end Zy
section
variable {Z:Cx}
theorem aw2(h:rU Z)(k:Zy Z.S){d:Int}: ∀(m:Nat)(out:List j7)(i:Nat),i<Z.T.length->m<=200->out.length<=i->
 lg (fun n q=>mm n q ((200-m:Nat):Int) (Z.st i d) out) (RL Z d (Z.S.listed (fun i=>(Z.S.level i).bind fun l j=> .ok [l] j) m out i)):=by
 intro m;induction m with
 |zero=>
  intro out i hi _ ho;refine lg.lp (fun n m=>by simp only[rP,mj,Cv];exact rfl) ?_;refine Ev.DC (yZ h hi (k:=((200-0:Nat):Int)) (by omega)) ?_;exact lg.pure ⟨_,_,rfl⟩
 |succ m ih=>
  intro out i hi hm ho;have hlen:=h.len;refine lg.lp (fun n m=>by simp only[rP,mj,Cv];exact rfl) ?_;refine Ev.DC (Ab hi (k:=((200-(m+1):Nat):Int)) (by omega)) ?_;have hall:=k.level hlen hi
  refine lg.lQ (P:=fun r=>match Z.S.level i with
   | .ok l j=>j<Z.T.length/\r=PR.ok (((),(),out++[l],(Z.st j d,()),()),())
   | .er e a=> ∃p,r=PR.pn (((),(),out,(p,()),()),{e:=e,at_:=a},())) ?_ fun r hr=> ?_
  ·refine lI.fn (fun n=>by simp only[BE,kG,zy,yD];exact rfl) ?_;refine lI.bind (ahn h k hi) fun r hr=> ?_
   cases hq:Z.S.level i with
   |er e a=>
    rw[hq] at hr;obtain⟨p,rfl⟩:=hr;exact lI.pure ⟨p,rfl⟩
   |ok l j=>
    rw[hq] at hr;obtain⟨hj,rfl⟩:=hr;simp only[CJ,jO (show(out.length+1)*32<=17592186044416 by omega),jM];exact lI.pure ⟨hj,rfl⟩
  ·unfold Src.listed;cases hq:Z.S.level i with
   |er e a=>
    rw[hq] at hr;obtain⟨p,rfl⟩:=hr;exact lg.pure ⟨_,_,rfl⟩
   |ok l j=>
    rw[hq] at hr hall;obtain⟨hj,rfl⟩:=hr;obtain⟨q1,q2,q3⟩:=hall;refine Ev.DC (qP h hj [44]) ?_;simp only[Rs.bind];cases hs:Z.S.sym [44] j with
    |true=>
     obtain⟨e,hl⟩:=k.I6 hj hs;simp only[jM];rw[show IntKind.i64.wrap (((200-(m+1):Nat):Int)+1)=((200-m:Nat):Int) by grind [wrap_small]];exact ih _ _ (rk hj) (by omega) (by grind)
    |false=>exact lg.pure ⟨hj,rfl⟩
theorem aff(h:rU Z)(k:Zy Z.S){d:Int}{i:Nat}(hi:i<Z.T.length):lI (fun n=>yU n (Z.st i d)) (RP Z d (Z.S.levels i)):=by
 refine lI.fn (fun n=>by simp only[yU,kG,BG,yD];exact rfl) ?_;refine Ev.to (qP h hi [46,123]) ?_;unfold Src.levels;cases hs:Z.S.sym [46,123] i with
 |false=>exact lI.pure ⟨hi,rfl⟩
 |true=>
  obtain⟨e,hl⟩:=k.I6 hi hs;simp only[jM];rw[e];refine lI.bind (P:=RL Z d (Z.S.listed (fun i=>(Z.S.level i).bind fun l j=> .ok [l] j) 200 [] (i+1))) ?_ fun r hr=> ?_
  ·refine lI.fn (fun n=>by simp only[pZ,kG,pM,yD];exact rfl) ?_;exact lI.zH (F:=fun n q=>mm n q 0 (Z.st (i+1) d) []) (aw2 h k 200 [] _ hl (gv _) (gx _))
  ·cases hq:Z.S.listed (fun i=>(Z.S.level i).bind fun l j=> .ok [l] j) 200 [] (i+1) with
   |er e a=>
    rw[hq] at hr;obtain⟨p,l,rfl⟩:=hr;exact lI.pure ⟨_,rfl⟩
   |ok l j=>
    rw[hq] at hr;obtain⟨hj,rfl⟩:=hr;simp only[anT,Rs.aiR];exact RU.step (uO h hj [125]) (fun q _ hql=>lI.pure ⟨hql,rfl⟩)
end
section
variable {Z:Cx}
theorem Xl{i:Nat}{d:Int}(hi:i<Z.T.length):Ev (fun n=>vm n (Z.st i d)) (Z.S.DA i):=by
 refine Ev.fn (fun n=>by simp only[vm,kG,Bj,mB];exact rfl) ?_;refine Ev.bind (Cq hi) ?_;unfold Src.DA Src.sym Src.key Src.is;rw[MM hi];cases h0:Z.T[i].kind==0 with
 |true=>grind [Ev.pure]
 |false=>
  cases h1:Z.T[i].kind==1 with
  |true=>grind [Ev.pure]
  |false=>
   simp only[jN,gz];cases h2:Z.T[i].kind==2 with
   |true=>
    have h3:(Z.T[i].kind==3)=false:=by rw[jS.1 h2];rfl
    grind [Ev.pure]
   |false=>
    grind [Ev.pure]
theorem atA(h:rU Z){i:Nat}{d:Int}(hi:i<Z.T.length):Ev (fun n=>uU n (Z.st i d)) ((Z.st i d,()),Z.S.hole i,()):=by
 refine Ev.fn (fun n=>by simp only[uU,kG,C5,Cv];exact rfl) ?_;refine Ev.bind (Sv h hi) ?_;exact Ev.bind (Sv h hi) Ev.pure
theorem aoc(h:rU Z){i:Nat}{d:Int}(hi:i<Z.T.length):lI (fun n=>vC n (Z.st i d)) (RU Z d (bif (Z.S.K i).1==4 then .ok () i else Z.S.bad i)):=by
 refine lI.fn (fun n=>by simp only[vC,kG,By,yD];exact rfl) ?_;refine Ev.to (Cq hi) ?_;rw[show(Z.S.K i).1=Z.T[i].kind by rw[MM hi]];refine lI.bind (DD h hi _) fun r hr=> ?_
 cases hk:Z.T[i].kind==4 with
 |true=>rw[hk] at hr;obtain⟨_,rfl⟩:=hr;exact lI.pure ⟨hi,rfl⟩
 |false=>rw[hk] at hr;obtain⟨p,rfl⟩:=hr;exact lI.pure ⟨p,rfl⟩
theorem WN(t:kI)(s:Str):Ev (fun n=>vR n t s) (t.kind==2&&t.text==s):=by
 refine Ev.fn (fun n=>by simp only[vR,kG,yo,mB];exact rfl) ?_;cases t.kind==2<;>exact Ev.pure
theorem aiS(h:rU Z){d:Int}{i p:Nat}: ∀(f q:Nat)(out:List Str),q+f=Z.T.length->out.length<=q-> ∀k:Nat,∀hk:i+1+k=q,i+1<=Z.T.length->
 kR (fun n m=>su n m (Z.T.drop (i+1)) ((Z.T.drop (i+1)).length:Int) (k:Int) (Z.st p d) out) ((Z.st p d,()),Z.S.wr f out q,()):=by
 intro f;induction f with
 |zero=>
  intro q out hq ho k hk hi;refine kR.lp (fun n m=>by simp only[Da,sr,mB];exact rfl) ?_;rw[jP (by rw[gF];omega)];exact kR.pure
 |succ f ih=>
  intro q out hq ho k hk hi;have hlen:=h.len;have hql:q<Z.T.length:=by omega
  have hkl:k<(Z.T.drop (i+1)).length:=by rw[gF];omega
  have e0:(Z.T.drop (i+1))[k]=Z.T[q]:=by grind
  refine kR.lp (fun n m=>by simp only[Da,sr,mB];exact rfl) ?_;rw[jO (show(k:Int)<((Z.T.drop (i+1)).length:Int) by omega)];simp only[jM,qi hkl,gB,e0];refine kR.lQ (WN _ _) ?_;unfold Src.wr;have aBF: ∀s,Z.S.sym s q=(Z.T[q].kind==2&&Z.T[q].text==s):=fun s=>by unfold Src.sym Src.is;rw[MM hql]
  rw[aBF];cases Z.T[q].kind==2&&Z.T[q].text==[58] with
  |true=>exact kR.pure
  |false=>
   simp only[jN];refine kR.lQ (WN _ _) ?_;unfold Src.isVar Src.simple;rw[aBF,MM hql];have aDr:=ih (q+1) (out++[Z.T[q].text]) (by omega) (by grind) (k+1) (by omega) hi;have e16:decide ((out.length+1)*16<=17592186044416)=true:=jO (by omega);cases Z.T[q].kind==2&&Z.T[q].text==[95] with
   |true=>
    grind [kO]
   |false=>
    simp only[jN,gQ];cases Z.T[q].kind==0 with
    |false=>exact kR.pure
    |true=>
     simp only[jM,gw];refine kR.lQ (aty _ (h.at_ _ (gC hql)).2.2) ?_
     grind [kR.pure,kO]
theorem aod(h:rU Z){d:Int}{i q:Nat}(hi:i<Z.T.length)(hq:q<Z.T.length):Ev (fun n=>xT n (Z.st q d) (i:Int)) ((Z.st q d,()),Z.S.written i,()):=by
 refine Ev.fn (fun n=>by simp only[xT,kG,AB,mB];exact rfl) ?_;have hlen:=h.len;have e0:wq (Z.st q d).so.tokens (i:Int)=some Z.T[i]:=qi hi;simp only[e0,gB];refine Ev.bind (WN _ _) ?_;unfold Src.written;rw[show Z.S.sym [40] i=(Z.T[i].kind==2&&Z.T[i].text==[40]) by unfold Src.sym Src.is;rw[MM hi]];cases Z.T[i].kind==2&&Z.T[i].text==[40] with
 |false=>exact Ev.pure
 |true=>
  simp only[jM]
  have e2:decide (0<=((i+1:Nat):Int)/\((i+1:Nat):Int)<=((Z.st q d).so.tokens.length:Int)/\((Z.st q d).so.tokens.length:Int)<=((Z.st q d).so.tokens.length:Int))=true:=
   jO ⟨by omega,by show((i+1:Nat):Int)<=(Z.T.length:Int);omega,gu _⟩
  rw[kO (by omega),e2];simp only[jM,gD,gX];exact Ev.zH (F:=fun n m=>su n m (Z.T.drop (i+1)) ((Z.T.drop (i+1)).length:Int) 0 (Z.st q d) []) (aiS h (Z.T.length-(i+1)) (i+1) [] (by omega) (gx _) 0 rfl (by omega))
inductive atB:Syntax->Prop
 |mk {k:Int} {s:Str} {n:Int} {ns:List Str} {ls:List j7} {ks:List Syntax} {f t:Int} (h1:ns.length<=1000000) (h2:ls.length<=1000000) (h3: ∀l∈ls,LSm l) (h4:ks.length<=1000000) (h5: ∀x∈ks,atB x):atB (.mk k s n ns ls ks f t)
theorem aqX{kind num:Int}(l:List kg)(c:kg)(body:Syntax)(f:Int):Src.X5 kind num (l++[c]) body f=Src.X5 kind num l (.mk kind c.name num [] [] [c.t,body] f body.to) f:=by
 grind [Src.X5]
theorem aqY(x:Syntax)(l:List kg)(hl:l.length<=1000000): ∀(k:Nat),k<=l.length-> ∀body:Syntax,
 kR (fun n m=>tV n m l ((k:Int)-1) 0 x body) ((((),0),(x,()),(Src.X5 x.kind x.num (l.take k) body x.from_,()),()),()):=by
 intro k;induction k with
 |zero=>
  intro hk body;refine kR.lp (fun n m=>by simp only[BP,qY,mB];exact rfl) ?_;rw[jP (by omega)];exact kR.pure
 |succ k ih=>
  intro hk body;have hkl:k<l.length:=by omega
  refine kR.lp (fun n m=>by simp only[BP,qY,mB];exact rfl) ?_;rw[show((k+1:Nat):Int)-1=(k:Int) by omega,jO (Int.natCast_nonneg k)];simp only[jM,qi hkl,gB,beq_self_eq_true];refine kR.lQ (x:=((((),0),(x,()),(Syntax.mk x.kind l[k].name x.num [] [] [l[k].t,body] x.from_ body.to,()),()),true,())) ?_ ?_
  ·refine Ev.fn (fun n=>by simp only[Be,kG,zg,mB];exact rfl) ?_;exact Ev.pure
  ·simp only[jM];rw[wrap_small (by omega) (by omega)]
   grind [aqX,ic]
theorem aiT(x:Syntax)(l:List kg)(hl:l.length<=1000000)(body:Syntax):Ev (fun n=>AX n x l body) (Src.X5 x.kind x.num l body x.from_):=by
 refine Ev.fn (fun n=>by simp only[AX,kG,O0,mB];exact rfl) ?_;refine Ev.bind (x:=l) ?_ ?_
 ·refine Ev.fn (fun n=>by simp only[Ce,kG,Ap,mB];exact rfl) ?_;exact Ev.pure
 ·refine Ev.bind (x:=((((),0),(x,()),(Src.X5 x.kind x.num l body x.from_,()),()),())) ?_ Ev.pure;refine Ev.fn (fun n=>by simp only[Ay,kG,yp,mC];exact rfl) ?_
  grind [wrap_small,aqY,gX,Ev.zH]
end
theorem alq(l:List Str)(h:l.length<=1000000):Ev (fun n=>xP n l) ((l,()),()):=by
 refine⟨1,fun n hn=> ?_⟩;obtain⟨k,rfl⟩: ∃k,n=k+1:=⟨n-1,by omega⟩;cases l with
 |nil=>rfl
 |cons x xs=>
  grind [xP,An]
theorem alr(l:List j7)(h:l.length<=1000000):Ev (fun n=>tP n l) ((l,()),()):=by
 refine⟨1,fun n hn=> ?_⟩;obtain⟨k,rfl⟩: ∃k,n=k+1:=⟨n-1,by omega⟩;cases l with
 |nil=>rfl
 |cons x xs=>
  grind [tP,wx]
theorem als(l:List Syntax)(h:l.length<=1000000):Ev (fun n=>xQ n l) ((l,()),()):=by
 refine⟨1,fun n hn=> ?_⟩;obtain⟨k,rfl⟩: ∃k,n=k+1:=⟨n-1,by omega⟩;cases l with
 |nil=>rfl
 |cons x xs=>
  grind [xQ,Ao]
theorem aiU(l:List kf)(h:l.length<=1000000):Ev (fun n=>wQ n l) l:=by
 refine⟨1,fun n hn=> ?_⟩;obtain⟨k,rfl⟩: ∃k,n=k+1:=⟨n-1,by omega⟩;cases l with
 |nil=>rfl
 |cons x xs=>
  grind [wQ,zf]
theorem aqZ(h:atB t):Ev (fun n=>tH n t) t:=by
 induction h with
 | @mk k s num ns ls ks f t h1 h2 h3 h4 h5 ih=>
   have kids: ∀(d i:Nat),i+d=ks.length->kR (fun n m=>Av (tH n) n m (ks.length:Int) (i:Int) k s num f t ns ls ks) (Syntax.mk k s num ns ls ks f t):=by
    intro d;induction d with
    |zero=>
     intro i hi;refine kR.lp (fun n m=>by simp only[L9,Au,mB];exact rfl) ?_
     grind [kR.pure]
    |succ d ihd=>
     intro i hi;have hlt:i<ks.length:=by omega
     refine kR.lp (fun n m=>by simp only[L9,Au,mB];exact rfl) ?_;rw[jO (by omega)];simp only[jM,qi hlt,gB,gD,gT hlt];refine kR.lQ (ih _ (gC hlt)) ?_;rw[iw,kO (by omega)];exact ihd (i+1) (by omega)
   have aDb: ∀(d i:Nat),i+d=ls.length->kR (fun n m=>Ax (tH n) n m (ls.length:Int) (i:Int) k s num ks f t ns ls) (Syntax.mk k s num ns ls ks f t):=by
    intro d;induction d with
    |zero=>
     intro i hi;refine kR.lp (fun n m=>by simp only[Ma,Aw,mB];exact rfl) ?_;rw[jP (by omega)];simp only[jN];refine kR.lQ (als ks h4) ?_;exact kR.Xr (Ev.zH (F:=fun n m=>Av (tH n) n m (ks.length:Int) 0 k s num f t ns ls ks) (kids ks.length 0 (by omega)))
    |succ d ihd=>
     intro i hi;have hlt:i<ls.length:=by omega
     refine kR.lp (fun n m=>by simp only[Ma,Aw,mB];exact rfl) ?_;rw[jO (by omega)];simp only[jM,qi hlt,gB,gD,gT hlt];refine kR.lQ (aiU _ (Nat.le_trans (h3 _ (gC hlt)) (by decide))) ?_;simp only[jO hlt,jM];rw[show({hole:=ls[i].hole,lz:=ls[i].lz}:j7)=ls[i] from rfl,iw,kO (by omega)];exact ihd (i+1) (by omega)
   refine Ev.fn (fun n=>by simp only[tH,kG,KB,mB];exact rfl) ?_;refine Ev.bind (alq ns h1) ?_;refine Ev.bind (alr ls h2) ?_;exact Ev.zH (F:=fun n m=>Ax (tH n) n m (ls.length:Int) 0 k s num ks f t ns ls) (aDb ls.length 0 (by omega))
theorem alu(l:List Str)(hl:l.length<=1000000)(h:atB t):Ev (fun n=>DS n l t) (Src.typed l t):=by
 have key: ∀(d i:Nat),i+d=l.length->kR (fun n m=>BS n m l (l.length:Int) (i:Int) t (Src.typed (l.take i) t)) (Src.typed l t):=by
  intro d;induction d with
  |zero=>
   intro i hi;refine kR.lp (fun n m=>by simp only[NU,BR,mB];exact rfl) ?_
   grind [kR.pure]
  |succ d ihd=>
   intro i hi;have hlt:i<l.length:=by omega
   refine kR.lp (fun n m=>by simp only[NU,BR,mB];exact rfl) ?_;rw[jO (by omega)];simp only[jM,qi hlt,gB];refine kR.lQ (aqZ h) ?_;have hlen:(Src.typed (l.take i) t).length=i:=by grind [Src.typed]
   simp only[hlen,jO (show(i+1)*136<=17592186044416 by omega),jM];rw[kO (by omega),show Src.typed (l.take i) t++[{name:=l[i],t:=t}]=Src.typed (l.take (i+1)) t by grind [Src.typed,ic]];exact ihd (i+1) (by omega)
 refine Ev.fn (fun n=>by simp only[DS,kG,Mk,mB];exact rfl) ?_;exact Ev.zH (F:=fun n m=>BS n m l (l.length:Int) 0 t []) (key l.length 0 (by omega))
inductive Rg:Syntax->Prop
 |mk {k:Int} {s:Str} {n:Int} {ns:List Str} {ls:List j7} {ks:List Syntax} {f t:Int} (h1:ns.length<=1000000) (h2:ls.length<=1000000) (h3: ∀l∈ls,LSm l) (h4:ks.length<=1000000) (h5:k=13->ks.length=2) (h6:f<=t)
   (h7: ∀x∈ks,Rg x) (h8: ∀x∈ks,f<=x.from_/\x.to<=t):Rg (.mk k s n ns ls ks f t)
theorem Rg.le{x:Syntax}(h:Rg x):x.from_<=x.to:=by cases h;assumption
theorem Rg.leaf{s:Str}{n:Int}{ns:List Str}{ls:List j7}{f t:Int}(hk:k≠13)(h6:f<=t)(h1:ns.length<=1000000)(h2:ls.length<=1000000)(h3: ∀l∈ls,LSm l):Rg (.mk k s n ns ls [] f t):=
 .mk h1 h2 h3 (gx _) (fun e=>absurd e hk) h6 (fun x hx=>by cases hx) fun x hx=>by cases hx
theorem Rg.aho{s:Str}{n:Int}{f t:Int}(hk:k≠13)(h6:f<=t):Rg (.mk k s n [] [] [] f t):= .leaf hk h6 (gx _) (gx _) fun l hl=>by cases hl
theorem Rg.two{s:Str}{n:Int}{x y:Syntax}{f t:Int}(hx:Rg x)(hy:Rg y)(h1:f<=x.from_)(h2:x.to<=t)(h3:f<=y.from_)(h4:y.to<=t):Rg (.mk k s n [] [] [x,y] f t):=by
 refine .mk (gx _) (gx _) (fun l hl=>by cases hl) (by decide:2<=1000000) (fun _=>rfl) (by have:=hx.le;omega) (fun z hz=> ?_) fun z hz=> ?_<;>
 ·grind
theorem Rg.one{s:Str}{n:Int}{x:Syntax}{f t:Int}(hk:k≠13)(hx:Rg x)(h1:f<=x.from_)(h2:x.to<=t):Rg (.mk k s n [] [] [x] f t):=by
 refine .mk (gx _) (gx _) (fun l hl=>by cases hl) (by decide:1<=1000000) (fun e=>absurd e hk) (by have:=hx.le;omega) (fun z hz=> ?_) fun z hz=> ?_
 all_goals grind
theorem Rg.kids{x:Syntax}(h:Rg x): ∀y∈x.kids,Rg y/\x.from_<=y.from_/\y.to<=x.to:=by
 cases h;rename_i h7 h8;exact fun y hy=>⟨h7 y hy,h8 y hy⟩
theorem Rg.Ob{x:Syntax}(h:Rg x):x.kind=13->x.kids.length=2:=by cases h;assumption
theorem Rg.Su{x:Syntax}(h:Rg x){f:Int}(hf:f<=x.from_):Rg (Src.Su x f):=by
 cases h;rename_i h1 h2 h3 h4 h5 h6 h7 h8;exact .mk h1 h2 h3 h4 h5 (gM hf h6) h7 fun y hy=>⟨gM hf (h8 y hy).1,(h8 y hy).2⟩
inductive Uc:Int->Int->List Syntax->Prop
 |nil {a b:Int}:Uc a b []
 |cons {a b:Int} {x:Syntax} {l:List Syntax}:a<=x.from_->Rg x->x.to<=b->Uc x.to b l->Uc a b (x::l)
theorem Uc.left {a':Int}{l:List Syntax}(h:Uc a b l)(ha:a'<=a):Uc a' b l:=by
 cases h with
 |nil=>exact .nil
 |cons h1 h2 h3 h4=>exact .cons (gM ha h1) h2 h3 h4
theorem Uc.right {b':Int}{l:List Syntax}(h:Uc a b l)(hb:b<=b'):Uc a b' l:=by
 induction h with
 |nil=>exact .nil
 |cons h1 h2 h3 _ ih=>exact .cons h1 h2 (gM h3 hb) (ih hb)
theorem Uc.mem{l:List Syntax}(h:Uc a b l): ∀x∈l,Rg x/\a<=x.from_/\x.to<=b:=by
 induction h with
 |nil=>intro x hx;cases hx
 |cons h1 h2 h3 _ ih=>
  intro y hy;rcases List.mem_cons.1 hy with rfl|hy
  ·exact⟨h2,h1,h3⟩
  ·obtain⟨k1,k2,k3⟩:=ih y hy;have:=h2.le;exact⟨k1,by omega,k3⟩
theorem Uc.snoc {c:Int}{l:List Syntax}{y:Syntax}(h:Uc a b l)(hy:Rg y)(h1:a<=y.from_)(h2:b<=y.from_)(h3:y.to<=c):Uc a c (l++[y]):=by
 induction h with
 |nil=>exact .cons h1 hy h3 .nil
 |cons k1 k2 k3 _ ih=>exact .cons k1 k2 (by have:=hy.le;omega) (ih (by omega) h2)
theorem Rg.aBG{s:Str}{n:Int}{ns:List Str}{ls:List j7}{l:List Syntax}{f t:Int}(hk:k≠13)(h:Uc a b l)(hl:l.length<=1000000)(h6:f<=t)(ha:f<=a)(hb:b<=t)(h1:ns.length<=1000000)(h2:ls.length<=1000000)(h3: ∀l∈ls,LSm l):Rg (.mk k s n ns ls l f t):=
 .mk h1 h2 h3 hl (fun e=>absurd e hk) h6 (fun x hx=>(h.mem x hx).1) fun x hx=>by have:=h.mem x hx;omega
theorem Uc.pairs: ∀(l:List Syntax){a:Int}{x:Syntax},Uc a b (x::l)->Rg (Src.pairs b l x)/\(Src.pairs b l x).from_=x.from_/\(Src.pairs b l x).to<=b
 |[],a,x,.cons _ h2 h3 _=>⟨h2,rfl,h3⟩
 |y::l,a,x,.cons h1 h2 h3 h4=>by
  obtain⟨k1,k2,k3⟩:=Uc.pairs l h4;have:=h2.le;cases h4 with
  |cons q1 _ _ _=>exact⟨.two h2 k1 (gu _) h3 (by omega) k3,rfl,gu _⟩
theorem aiV{k n f:Int}{body:Syntax}(hb:Rg body)(hf:f<=body.from_): ∀l:List kg,(∀b∈l,Rg b.t/\f<=b.t.from_/\b.t.to<=body.to)->Rg (Src.X5 k n l body f)/\f<=(Src.X5 k n l body f).from_/\(Src.X5 k n l body f).to=body.to
 |[],_=>⟨hb,hf,rfl⟩
 |b::l,h=>by
  obtain⟨k1,k2,k3⟩:=aiV (k:=k) (n:=n) hb hf l fun c hc=>h c (by simp [hc])
  obtain⟨q1,q2,q3⟩:=h b (by simp);exact⟨.two q1 k1 q2 (gM q3 (Int.le_of_eq k3.symm)) k2 (gu _),gu _,k3⟩
theorem abR(l:List Str)(t:Syntax):(Src.typed l t).length=l.length:=List.length_map _
theorem ahp{l:List Str}{b:kg}(h:b∈Src.typed l t):b.t=t:=by
 obtain⟨s,_,rfl⟩:=List.mem_map.1 h;rfl
structure Pos(S:Src):Prop where
 ef: ∀i,i<S.len->S.E i<=S.F i
 fe: ∀i,i+1<S.len->S.F i<=S.E (i+1)
theorem Pos.ee{S:Src}(p:Pos S){i:Nat}(h:i<=j)(hj:j<S.len):S.E i<=S.E j:=by
 obtain⟨k,rfl⟩:=Nat.le.dest h;induction k with
 |zero=>exact gu _
 |succ k ih=>
  have h2:=p.ef (i+k) (by omega);have h3:=p.fe (i+k) (by omega)
  grind
theorem Pos.fl{S:Src}(p:Pos S){i:Nat}(h:i<j)(hj:j<S.len):S.F i<=S.E j:=gM (p.fe i (by omega)) (p.ee h hj)
theorem Pos.ff{S:Src}(p:Pos S){i:Nat}(h:i<=j)(hj:j<S.len):S.F i<=S.F j:=by
 rcases Nat.lt_or_ge i j with h1|h1
 ·exact gM (p.fl h1 hj) (p.ef j hj)
 grind
def Ex(S:Src)(i:Nat)(x:Syntax)(j:Nat):Prop:=i<j/\j<S.len/\Rg x/\S.F i<=x.from_/\x.to<=S.E j
def I7(S:Src)(r:Nat->Rs Syntax):Prop:= ∀i,i<S.len->(r i).IJ S (Ex S i)
theorem Ex.back{S:Src}(p:Pos S){i i':Nat}{x:Syntax}(h:Ex S i x j)(hi:i'<=i):Ex S i' x j:=by
 obtain⟨h1,h2,h3,h4,h5⟩:=h;have:=p.ff hi (by omega);exact⟨by omega,h2,h3,by omega,h5⟩
theorem Ex.on{S:Src}(p:Pos S){i j':Nat}{x:Syntax}(h:Ex S i x j)(hj:j<=j')(hl:j'<S.len):Ex S i x j':=by
 obtain⟨h1,h2,h3,h4,h5⟩:=h;have:=p.ee hj hl;exact⟨by omega,hl,h3,h4,by omega⟩
def afg(S:Src):Prop:= ∀(l:List Syntax)(a b:Int),l≠[]->Uc a b l->(S.np l).2.2=0->Rg (S.np l).1/\a<=(S.np l).1.from_/\(S.np l).1.to<=b
namespace Zy
variable {S:Src} (h:Zy S) (p:Pos S) {ex ta:Nat->Rs Syntax}
include h p
theorem alts(Ac:I7 S ta){o:Nat}: ∀(m:Nat)(x:Syntax)(i:Nat),Ex S o x i->(S.alts ta m x i).IJ S (Ex S o)
 |0,x,i,hx=> .p9 (fun hc=>by obtain⟨e,hl⟩:=h.I6 hx.2.1 hc;rw[e];exact .er hl) fun _=>hx
 |m+1,x,i,hx=>by
  obtain⟨h1,h2,h3,h4,h5⟩:=hx;refine .p9 (fun hc=> ?_) fun _=>⟨h1,h2,h3,h4,h5⟩
  obtain⟨e,hl⟩:=h.I6 h2 hc;rw[e];refine(Ac _ hl).bind fun y j ⟨k1,k2,k3,k4,k5⟩=>alts Ac m _ j ?_
  have a2:=p.ef i h2;have a3:=p.ff (show i<=i+1 by omega) hl;have a4:=k3.le;have a5:=h3.le;exact⟨by omega,k2,.two h3 k3 (gu _) (by omega) (by omega) (gu _),h4,k5⟩
theorem alt(Ac:I7 S ta):I7 S (S.alt ta):=fun i hi=>(Ac i hi).bind fun x j hx=>h.alts p Ac 199 x j hx
theorem Ll(Ac:I7 S ta){o:Nat}: ∀(m:Nat)(out:List Syntax)(i:Nat),o<=i->i<S.len->Uc (S.F o) (S.E i) out->out.length+m=200->(S.Ll ta m out i).IJ S fun l j=>i<=j/\j<S.len/\Uc (S.F o) (S.E j) l/\l.length<=200
 |0,out,i,ho,hi,hc,hm=> .p9 (fun _=>⟨gv _,hi,hc,by omega⟩) fun _=> .er hi
 |m+1,out,i,ho,hi,hc,hm=>by
  refine .p9 (fun _=>⟨gv _,hi,hc,by omega⟩) fun _=>(h.alt p Ac i hi).bind fun x j ⟨k1,k2,k3,k4,k5⟩=> ?_
  have a1:=p.ff ho hi;have a2:=p.ef i hi;have hs:=hc.snoc k3 (by omega) (by omega) k5;refine .p9 (fun hc=> ?_) fun _=>⟨by omega,k2,hs,by grind⟩
  obtain⟨e,hl⟩:=h.I6 k2 hc;rw[e];exact(Ll Ac m _ _ (by omega) hl (hs.right (p.ee (by omega) hl)) (by grind)).imp fun l j ⟨q1,q2,q3,q4⟩=>⟨by omega,q2,q3,q4⟩
theorem block(Ac:I7 S ta){i:Nat}(hi:i<S.len):(S.block ta i).IJ S fun l j=>i<j/\j<S.len/\Uc (S.F i) (S.E j) l/\l.length<=200:=by
 refine(h.take hi _).bind fun _ k ⟨e,hk⟩=> ?_
 subst e;refine(h.Ll p Ac 200 [] (o:=i) _ (ib i) hk .nil rfl).bind fun l j ⟨q1,q2,q3,q4⟩=> ?_
 exact(h.take q2 _).bind fun _ r ⟨e,hr⟩=>⟨by omega,hr,q3.right (p.ee (by omega) hr),q4⟩
theorem fill(hl:S.len<=100000)(Ac:I7 S ta){i:Nat}(hi:i<S.len):(S.fill ta i).IJ S fun x j=>i<j/\j<S.len/\x.from_=S.F i/\Rg (Src.apn x (S.E j)):=by
 have z: ∀{j:Nat},i<j->j<S.len->S.F i<=S.E j:=fun a b=>p.fl a b
 have lev: ∀{j:Nat}(s:Str)(n:Int),i<j->j<S.len->((S.levels j).bind fun l k=>Rs.ok (Syntax.mk 0 s n [] l [] (S.F i) 0) k).IJ S fun x j=>i<j/\j<S.len/\x.from_=S.F i/\Rg (Src.apn x (S.E j)):=fun s n a b=>
  (h.levels hl b).bind fun l k ⟨q1,q2,q3,q4⟩=>by
    have:Rg (.mk 0 s n [] l [] (S.F i) (S.E k)):= .leaf (by decide) (z (by omega) q2) (gx _) (by omega) q4;exact⟨by omega,q2,rfl,this⟩
 have fix: ∀{s:Str}{n k:Int},k≠13->S.nx i=i+1->i+1<S.len->(Rs.ok (Syntax.mk k s n [] [] [] (S.F i) 0) (S.nx i)).IJ S fun x j=>i<j/\j<S.len/\x.from_=S.F i/\Rg (Src.apn x (S.E j)):=fun a e b=>by
  rw[e];exact⟨by omega,b,rfl,.aho a (z (by omega) b)⟩
 refine .p9 (fun hc=> ?_) fun _=> .p9 (fun hc=> ?_) fun _=> .p9 (fun hc=> ?_) fun _=> .p9 (fun hc=> ?_) fun _=> .p9 (fun hc=> ?_) fun _=> .p9 (fun hc=> ?_) fun _=> .p9 (fun hc=> ?_) fun _=> .p9 (fun hc=> ?_) fun _=> .er hi
 ·obtain⟨e,hj⟩:=h.nx hi (by rw[jS.1 hc];decide);rw[e];exact lev _ _ (by omega) hj
 ·obtain⟨e,hj⟩:=h.I6 hi hc;rw[e];refine(h.name hj).bind fun s k ⟨e,hk⟩=> ?_
  exact lev _ _ (by omega) hk
 ·obtain⟨e,hj⟩:=h.I6 hi hc;exact fix (by decide) e hj
 ·exact(h.number hi).bind fun n j ⟨_,e,hj⟩=>⟨by omega,hj,rfl,.aho (show(12:Int)≠13 by decide) (z (by omega) hj)⟩
 ·obtain⟨e,hj⟩:=h.aoa hi hc;exact fix (by decide) e hj
 ·obtain⟨e,hj⟩:=h.aoa hi hc;rw[e];exact(h.one hl hj).bind fun l k ⟨q1,q2,q3⟩=>⟨by omega,q2,rfl,.leaf (show(11:Int)≠13 by decide) (z (by omega) q2) (gx _) (by decide:1<=1000000) fun x hx=>by rw[gG.1 hx];exact q3⟩
 ·obtain⟨e,hj⟩:=h.I6 hi hc;exact fix (by decide) e hj
 ·obtain⟨e,hj⟩:=h.aoa hi hc;rw[e];refine(h.block p Ac hj).bind fun l k ⟨q1,q2,q3,q4⟩=>⟨by omega,q2,rfl,?_⟩
  have:Rg (.mk 14 [] 0 [] [] l (S.F i) (S.E k)):= .aBG (by decide) q3 (by omega) (z (by omega) q2) (p.ff (show i<=i+1 by omega) hj) (gu _) (gx _) (gx _) fun l hl=>by cases hl
  exact this
theorem adm(hex:I7 S ex){a:Int}: ∀(m:Nat)(out:List Syntax)(i:Nat),i<S.len->a<=S.E i->Uc a (S.E i) out->(S.adm ex m out i).IJ S fun l j=>i<=j/\j<S.len/\Uc a (S.E j) l
 |0,out,i,hi,ha,hc=> .p9 (fun hs=>by obtain⟨e,hl⟩:=h.I6 hi hs;rw[e];exact .er hl) fun _=>⟨gv _,hi,hc⟩
 |m+1,out,i,hi,ha,hc=>by
  refine .p9 (fun hs=> ?_) fun _=>⟨gv _,hi,hc⟩
  obtain⟨e,hl⟩:=h.I6 hi hs;rw[e];refine(hex _ hl).bind fun x j ⟨k1,k2,k3,k4,k5⟩=> ?_
  have a1:=p.ef _ hl;have a2:=p.ee (show i<=i+1 by omega) hl;have a3:=p.ee (show i<=j by omega) k2;exact(adm hex m _ j k2 (by omega) (hc.snoc k3 (by omega) (by omega) k5)).imp fun l j' ⟨q1,q2,q3⟩=>⟨by omega,q2,q3⟩
theorem HZ(hex:I7 S ex){o i:Nat}(ho:o<i)(hi:i<S.len):(S.HZ ex o i).IJ S (Ex S o):=by
 refine(hex i hi).bind fun x j hx=> ?_
 have hb:=hx.back p (ig ho);obtain⟨h1,h2,h3,h4,h5⟩:=hx;have b4:=hb.2.2.2.1;refine .p9 (fun hc=> ?_) fun _=> .p9 (fun hc=> ?_) fun _=> .p9 (fun hc=> ?_) fun _=> .er h2
 ·obtain⟨e,hl⟩:=h.I6 h2 hc;rw[e];exact hb.on p (ib j) hl
 ·obtain⟨e,hl⟩:=h.I6 h2 hc;rw[e];refine(hex _ hl).bind fun t k ⟨k1,k2,k3,k4,k5⟩=>(h.take k2 _).bind fun _ q ⟨e,hq⟩=> ?_
  have a1:=p.ee (show j<=q by omega) hq;have a2:=p.ee (show k<=q by omega) hq;have a3:=p.ff (show o<=j+1 by omega) hl;exact⟨by omega,hq,.two h3 k3 b4 (by omega) (by omega) (by omega),gu _,gu _⟩
 ·refine(h.adm p hex 199 [] j h2 (a:=x.to) h5 .nil).bind fun l k ⟨k1,k2,k3⟩=>(h.take k2 _).bind fun _ q ⟨e,hq⟩=> ?_
  have a1:=p.ee (show j<=q by omega) hq;have a2:=p.ee (show k<=q by omega) hq;obtain⟨q1,q2,q3⟩:=Uc.pairs (b:=S.E q) l (a:=x.from_) (x:=x) (.cons (gu _) h3 (by omega) (k3.right a2));exact⟨by omega,hq,q1.Su (by rw[q2];exact b4),gu _,q3⟩
theorem basic(hl:S.len<=100000)(hex:I7 S ex)(Ac:I7 S ta):I7 S (S.basic ex ta):=by
 intro i hi;refine .p9 (fun hc=> ?_) fun _=> ?_
 ·obtain⟨e,hj⟩:=h.I6 hi hc;rw[e];exact h.HZ p hex (gY i) hj
 ·refine(h.fill p hl Ac hi).bind fun x j ⟨k1,k2,k3,k4⟩=>⟨k1,k2,k4,?_,gu _⟩
  show S.F i<=x.from_;rw[k3];exact gu _
theorem Gy{o:Nat}: ∀(m:Nat)(x:Syntax)(i:Nat),Ex S o x i->(S.Gy m x i).IJ S (Ex S o)
 |0,x,i,hx=> .p9 (fun _=> .er hx.2.1) fun _=>hx
 |m+1,x,i,hx=>by
  obtain⟨h1,h2,h3,h4,h5⟩:=hx;refine .p9 (fun hc=> ?_) fun _=>⟨h1,h2,h3,h4,h5⟩
  have⟨e,hl⟩:S.nx i=i+1/\i+1<S.len:=by
   rw[iq] at hc;rcases hc with hc|hc<;>exact h.I6 h2 hc
  rw[e];refine Gy m _ _ ⟨by omega,hl,.one ?_ h3 (gu _) (gM h5 (p.ee (ib i) hl)),h4,gu _⟩
  grind
theorem Zx(hl:S.len<=100000)(hex:I7 S ex)(Ac:I7 S ta):I7 S (S.Zx ex ta):=fun i hi=>(h.basic p hl hex Ac i hi).bind fun x j hx=>h.Gy p 200 x j hx
theorem US(ha:I7 S (S.Zx ex ta)){o:Nat}: ∀(m:Nat)(x:Syntax)(i:Nat),Ex S o x i->(S.US ex ta m x i).IJ S (Ex S o)
 |0,x,i,hx=> .p9 (fun _=> .er hx.2.1) fun _=>hx
 |m+1,x,i,hx=>by
  obtain⟨h1,h2,h3,h4,h5⟩:=hx;refine .p9 (fun hc=> ?_) fun _=>⟨h1,h2,h3,h4,h5⟩
  refine(ha i h2).bind fun y j ⟨k1,k2,k3,k4,k5⟩=>US ha m _ j ?_
  have a2:=p.ef i h2;have a4:=k3.le;have a5:=h3.le;exact⟨by omega,k2,.two h3 k3 (gu _) (by omega) (by omega) (gu _),h4,k5⟩
theorem app(hl:S.len<=100000)(hex:I7 S ex)(Ac:I7 S ta):I7 S (S.app ex ta):=fun i hi=>(h.Zx p hl hex Ac i hi).bind fun x j hx=>h.US p (h.Zx p hl hex Ac) 199 x j hx
theorem item(hl:S.len<=100000)(hex:I7 S ex)(Ac:I7 S ta):I7 S (S.item ex ta):=by
 intro i hi;refine .p9 (fun hc=> ?_) fun _=>h.app p hl hex Ac i hi
 unfold Src.II at hc;rw[gA] at hc;obtain⟨e,hj⟩:=h.nx hi (by rw[jS.1 hc.1];decide);rw[e];exact⟨by omega,hj,.aho (by decide) (p.fl (gY i) hj),gu _,gu _⟩
theorem zC(hit:I7 S (S.item ex ta)){o:Nat}: ∀(m:Nat)(out:List Syntax)(i:Nat),o<=i->i<S.len->(out≠[]->o<i)->Uc (S.F o) (S.E i) out->out.length+m=200->(S.zC ex ta m out i).IJ S fun l j=>i<=j/\j<S.len/\(l≠[]->o<j)/\Uc (S.F o) (S.E j) l/\l.length<=200
 |0,out,i,ho,hi,hn,hc,hm=> .p9 (fun _=> .er hi) fun _=>⟨gv _,hi,hn,hc,by omega⟩
 |m+1,out,i,ho,hi,hn,hc,hm=>by
  refine .p9 (fun _=>(hit i hi).bind fun x j ⟨k1,k2,k3,k4,k5⟩=> ?_) fun _=>⟨gv _,hi,hn,hc,by omega⟩
  have a1:=p.ff ho hi;have a2:=p.ef i hi;exact(zC hit m _ j (by omega) k2 (fun _=>by omega) (hc.snoc k3 (by omega) (by omega) k5) (by grind)).imp fun l j' ⟨q1,q2,q3,q4,q5⟩=>⟨by omega,q2,q3,q4,q5⟩
theorem items(hl:S.len<=100000)(hex:I7 S ex)(Ac:I7 S ta){i:Nat}(hi:i<S.len):(S.zC ex ta 200 [] i).IJ S fun l j=>i<=j/\j<S.len/\(l≠[]->i<j)/\Uc (S.F i) (S.E j) l/\l.length<=200:=
 h.zC p (h.item p hl hex Ac) 200 [] i (gv _) hi (fun e=>absurd rfl e) .nil rfl
omit h in
theorem afd(q:afg S){i:Nat}{l:List Syntax}(hj:j<S.len)(hn:l≠[]->i<j)(hc:Uc (S.F i) (S.E j) l):(S.afd l j).IJ S (Ex S i):=by
 unfold Src.afd
 match l with
 |[]=>exact .er hj
 |x::r=>
  have hij:=hn (by simp);refine .p9 (fun _=> ?_) fun _=> .p9 (fun h0=> ?_) fun hz=> ?_
  ·obtain⟨k1,k2,k3⟩:=hc.mem x (by simp);exact⟨hij,hj,k1,k2,k3⟩
  ·obtain⟨k1,k2,k3⟩:=q _ _ _ (by simp) hc (jS.1 h0);exact⟨hij,hj,k1,k2,k3⟩
  ·have he:=jT.1 hz;split
   ·rename_i y hy;obtain⟨k1,k2,k3⟩:=hc.mem y (List.mem_of_getElem? hy);exact⟨he,i,j,by omega,hj,k2,by have:=k1.le;have:=p.ef j hj;omega⟩
   ·exact .er hj he
theorem op(q:afg S)(hl:S.len<=100000)(hex:I7 S ex)(Ac:I7 S ta):I7 S (S.op ex ta):=fun i hi=>
 (h.items p hl hex Ac hi).bind fun l j ⟨k1,k2,k3,k4,k5⟩=>afd p q k2 k3 k4
end Zy
def Bs(S:Src)(i:Nat)(l:List kg)(j:Nat):Prop:=i<j/\j<S.len/\ ∀b∈l,Rg b.t/\S.F i<=b.t.from_/\b.t.to<=S.E j
namespace Zy
variable {S:Src} (h:Zy S) (p:Pos S) {ex ta:Nat->Rs Syntax}
include h p
theorem nested {n:Int}{o i:Nat}{l:List kg}{x:Syntax}(hl:Bs S o l i)(hx:Ex S i x j):Ex S o (Src.X5 k n l x (S.F o)) j:=by
 obtain⟨h1,h2,h3⟩:=hl;obtain⟨k1,k2,k3,k4,k5⟩:=hx;have a1:=p.ef i h2;have a2:=p.ff (ig h1) h2;have a3:=k3.le
 obtain⟨q1,q2,q3⟩:=aiV (k:=k) (n:=n) k3 (f:=S.F o) (by omega) l fun b hb=>by
  grind
 exact⟨by omega,k2,q1,q2,by omega⟩
omit h in
theorem aw3 {o i:Nat}{l:List kg}(hl:Bs S o l i)(hij:i<=j)(hj:j<S.len):Bs S o l j:=by
 obtain⟨h1,h2,h3⟩:=hl;have:=p.ee hij hj;exact⟨by omega,hj,fun b hb=>by obtain⟨r1,r2,r3⟩:=h3 b hb;exact⟨r1,r2,by omega⟩⟩
theorem binder(hex:I7 S ex){op sh:Str}{i:Nat}(hi:i<S.len):(S.binder ex op sh i).IJ S fun l j=>1<=l.length/\l.length<=200/\Bs S i l j:=by
 refine(h.take hi _).bind fun _ k ⟨e,hk⟩=> ?_
 refine Rs.IJ.bind (P:=fun l j=>(1<=l.length/\l.length<=200)/\i<j/\j<S.len) ?_ fun l j ⟨l1,j1,j2⟩=>(h.take j2 _).bind fun _ a ⟨e1,ha⟩=>(hex a ha).bind fun t b ⟨k1,k2,k3,k4,k5⟩=>(h.take k2 _).bind fun _ c ⟨e2,hc⟩=> ?_
 ·refine .p9 (fun _=> ?_) fun _=> ?_
  ·exact(h.var hk).bind fun s j ⟨e,hj⟩=>⟨⟨gv 1,(by decide:1<=200)⟩,by omega,hj⟩
  ·exact(h.vars hk).imp fun l j ⟨q1,q2,q3,q4⟩=>⟨⟨q1,q2⟩,by omega,q4⟩
 ·refine⟨by rw[abR];exact l1.1,by rw[abR];exact l1.2,by omega,hc,fun b' hb=> ?_⟩;rw[ahp hb];have a1:=p.ff (show i<=a by omega) ha;have a2:=p.ee (show b<=c by omega) hc;exact⟨k3,by omega,by omega⟩
theorem product(hex:I7 S ex){n:Int}{o i:Nat}{l:List kg}{sep:Str}(hl:Bs S o l i):(S.product ex k n o l sep i).IJ S (Ex S o):=by
 refine(h.take hl.2.1 _).bind fun _ a ⟨e,ha⟩=>(hex a ha).bind fun x j hx=> ?_
 exact h.nested p (aw3 p hl (by omega) ha) hx
theorem Pl(hex:I7 S ex){o:Nat}: ∀(m:Nat)(out:List kg)(i:Nat),Bs S o out i->out.length<=200*(200-m)->m<=200->(S.Pl ex m out i).IJ S fun l j=>i<=j/\Bs S o l j/\l.length<=40000
 |0,out,i,hb,ho,_=> .p9 (fun _=>⟨gv _,hb,by omega⟩) fun _=> .er hb.2.1
 |m+1,out,i,hb,ho,hm=>by
  refine .p9 (fun _=>⟨gv _,hb,by omega⟩) fun _=> .p9 (fun _=> ?_) fun _=> ?_
  ·refine(h.binder p hex hb.2.1).bind fun l j ⟨_,l1,j1,j2,j3⟩=> ?_
   obtain⟨b1,b2,b3⟩:=aw3 p hb (ig j1) j2;refine(Pl hex m _ j ⟨b1,b2,fun b hb'=> ?_⟩ (by rw[gO];omega) (by omega)).imp fun l j' ⟨q1,q2⟩=>⟨by omega,q2⟩
   rcases gI.1 hb' with hb'|hb'
   ·exact b3 b hb'
   ·obtain⟨r1,r2,r3⟩:=j3 b hb';have:=p.ff (ig hb.1) hb.2.1;exact⟨r1,by omega,r3⟩
  ·refine(h.var hb.2.1).bind fun s j ⟨e,hj⟩=> ?_
   obtain⟨b1,b2,b3⟩:=aw3 p hb (show i<=j by omega) hj;refine(Pl hex m _ j ⟨b1,b2,fun b hb'=> ?_⟩ (by grind) (by omega)).imp fun l j' ⟨q1,q2⟩=>⟨by omega,q2⟩
   rcases gI.1 hb' with hb'|hb'
   ·exact b3 b hb'
   ·rw[gG.1 hb'];exact⟨.aho (by decide) (gu _),p.fl b1 b2,gu _⟩
theorem aDc(hex:I7 S ex){i:Nat}(hi:i<S.len)(hk:S.nx i=i+1/\i+1<S.len):(S.Pl ex 200 [] (i+1)).IJ S fun l j=>i<j/\Bs S i l j/\l.length<=40000:=
 (h.Pl p hex (o:=i) 200 [] (i+1) ⟨gY i,hk.2,fun b hb=>by cases hb⟩ (gx _) (gv _)).imp fun l j ⟨q1,q2⟩=>⟨by omega,q2⟩
theorem agt(hex:I7 S ex){i:Nat}(hi:i<S.len)(hk:S.nx i=i+1/\i+1<S.len):(S.agt ex i).IJ S (Ex S i):=by
 unfold Src.agt;rw[hk.1];refine(h.aDc p hex hi hk).bind fun l j ⟨_,hb,_⟩=>(h.take hb.2.1 _).bind fun _ a ⟨e,ha⟩=>(hex a ha).bind fun x k hx=> ?_
 exact h.nested p (aw3 p hb (by omega) ha) hx
theorem Ni(hex:I7 S ex){i:Nat}(hi:i<S.len)(hk:S.nx i=i+1/\i+1<S.len):(S.Ni ex i).IJ S (Ex S i):=by
 unfold Src.Ni;rw[hk.1];refine(h.var hk.2).bind fun s j ⟨e,hj⟩=> ?_
 refine Rs.IJ.bind (P:=Ex S i) ?_ fun t k ⟨t1,t2,t3,t4,t5⟩=>(h.take t2 _).bind fun _ a ⟨e1,ha⟩=>(hex a ha).bind fun v b ⟨v1,v2,v3,v4,v5⟩=>(h.take v2 _).bind fun _ c ⟨e2,hc⟩=>(hex c hc).bind fun y r ⟨y1,y2,y3,y4,y5⟩=> ?_
 ·refine .p9 (fun hs=> ?_) fun _=> ?_
  ·obtain⟨e2,hl⟩:=h.I6 hj hs;rw[e2];exact(hex _ hl).imp fun t k ht=>ht.back p (by omega)
  ·exact⟨by omega,hj,.aho (by decide) (gu _),p.fl (by omega) hj,gu _⟩
 ·have a1:=p.ee (show k<=c by omega) hc;have a2:=p.ee (show b<=c by omega) hc;have a3:=p.ef c hc;have a4:=y3.le;have a6:=p.ff (show i<=a by omega) ha;have a7:=t3.le;refine⟨by omega,y2,.mk (gx _) (gx _) (fun l hl=>by cases hl) (by decide:3<=1000000) (fun e=>by cases e) (by omega) (fun z hz=> ?_) (fun z hz=> ?_),gu _,y5⟩<;>
  ·grind
def atC(S:Src)(x:Syntax)(i:Nat):List kg:=bif x.kind==13&&(x.from_==S.F i&& !(S.written i).isEmpty) then Src.typed (S.written i) (x.kids.getD 1 X1) else [{name:=[],t:=x}]
omit h p in
theorem azC{x:Syntax}(hx:Rg x)(i:Nat): ∀b∈atC S x i,Rg b.t/\x.from_<=b.t.from_/\b.t.to<=x.to:=by
 unfold atC;cases hc:x.kind==13&&(x.from_==S.F i&& !(S.written i).isEmpty) with
 |false=>intro b hb;rw[gG.1 hb];exact⟨hx,gu _,gu _⟩
 |true=>
  rw[gA,jS] at hc;have h2:=hx.Ob hc.1;intro b hb;rw[ahp hb];exact hx.kids _ (by rw[List.getD_eq_getElem?_getD,gT (by omega)];exact gC _)
theorem Oa(q:afg S)(hl:S.len<=100000)(hex:I7 S ex)(Ac:I7 S ta):I7 S (S.Oa ex ta):=by
 intro i hi;refine(h.op p q hl hex Ac i hi).bind fun x j hx=> .p9 (fun hs=> ?_) fun _=>hx
 obtain⟨h1,h2,h3,h4,h5⟩:=hx;obtain⟨e,hj⟩:=h.I6 h2 hs;rw[e];refine(hex _ hj).bind fun b k ⟨k1,k2,k3,k4,k5⟩=> ?_
 have a1:=p.ee (show j<=j+1 by omega) hj;have a2:=p.ef _ hj;have a3:=k3.le;have a4:=h3.le
 obtain⟨q1,q2,q3⟩:=aiV (k:=4) (n:=0) k3 (f:=x.from_) (by omega) (atC S x i) fun b hb=>by
  obtain⟨r1,r2,r3⟩:=azC h3 i b hb;exact⟨r1,r2,by omega⟩
 exact⟨by omega,k2,q1,by unfold atC at q2;omega,by unfold atC at q3;omega⟩
theorem ye(q:afg S)(hl:S.len<=100000)(hex:I7 S ex)(Ac:I7 S ta):I7 S (S.ye ex ta):=by
 intro i hi
 have prod: ∀{o:Nat}{op sh sep:Str}{k n:Int},i<=o->o<S.len->((S.binder ex op sh o).bind fun l j=>S.product ex k n i l sep j).IJ S (Ex S i):=fun a b=>
  (h.binder p hex b).bind fun l j ⟨_,_,j1,j2,j3⟩=>h.product p hex ⟨by omega,j2,fun b' hb=>by
    obtain⟨r1,r2,r3⟩:=j3 b' hb;have:=p.ff a b;exact⟨r1,by omega,r3⟩⟩
 refine .p9 (fun hc=>h.agt p hex hi (h.aoa hi hc)) fun _=> .p9 (fun hc=>h.Ni p hex hi (h.aoa hi hc)) fun _=> .p9 (fun hc=> ?_) fun _=> .p9 (fun hc=>prod (gv _) hi) fun _=> .p9 (fun hc=>prod (gv _) hi) fun _=>h.Oa p q hl hex Ac i hi
 obtain⟨e,hj⟩:=h.aoa hi hc
 simp_all
theorem Lm: ∀(m:Nat)(out:List Str)(i:Nat),i<S.len->out.length+m=200->(S.Lm m out i).IJ S fun l j=>i<=j/\j<S.len/\l.length<=200
 |0,out,i,hi,hm=> .p9 (fun _=> .er hi) fun _=>⟨gv _,hi,by omega⟩
 |m+1,out,i,hi,hm=>by
  refine .p9 (fun hc=> ?_) fun _=>⟨gv _,hi,by omega⟩
  obtain⟨e,hl⟩:=h.nx hi (by rw[jS.1 hc];decide);rw[e];exact(Lm m _ _ hl (by grind)).imp fun l j ⟨q1,q2,q3⟩=>⟨by omega,q2,q3⟩
def Kn(S:Src)(i:Nat)(r:List Str×List Syntax)(j:Nat):Prop:=i<j/\j<S.len/\Uc (S.F i) (S.E j) r.2/\r.2.length<=200/\r.1.length<=200
omit h in
theorem kn1 {i a:Nat}{x:Syntax}(ha:i<=a)(h:Ex S a x j):Kn S i ([],[x]) j:=by
 obtain⟨k1,k2,k3,k4,k5⟩:=h;have:=p.ff ha (by omega);exact⟨by omega,k2,.cons (by omega) k3 k5 .nil,(by decide:1<=200),gx _⟩
theorem known(hex:I7 S ex)(Ac:I7 S ta){w:Str}{i:Nat}(hi:i<S.len)(hk:(S.K i).1=0):(S.known ex ta w i).IJ S (Kn S i):=by
 obtain⟨e,hj⟩:=h.nx hi (by rw[hk];decide);have nm: ∀{l:List Str}{j:Nat},i<j->j<S.len->l.length<=200->Kn S i (l,[]) j:=fun a b c=>⟨a,b,.nil,gx _,c⟩
 unfold Src.known;rw[e];refine .p9 (fun _=> ?_) fun _=> .p9 (fun _=> ?_) fun _=> .p9 (fun _=> ?_) fun _=> .p9 (fun _=> ?_) fun _=> .p9 (fun _=> ?_) fun _=> .p9 (fun _=> ?_) fun _=> .p9 (fun _=> ?_) fun _=> .p9 (fun _=> ?_) fun _=> .er hi
 ·exact(h.block p Ac hj).bind fun l j ⟨q1,q2,q3,q4⟩=>⟨by omega,q2,q3.left (p.ff (show i<=i+1 by omega) hj),q4,gx _⟩
 ·exact(hex _ hj).bind fun x j hx=>kn1 p (ib i) hx
 ·exact nm (gY i) hj (by decide)
 ·exact(h.var hj).bind fun s j ⟨e,hj⟩=>nm (by omega) hj (by simp)
 ·exact(h.vars hj).bind fun l j ⟨q1,q2,q3,q4⟩=>nm (by omega) q4 q2
 ·exact(h.ML hj).bind fun s j ⟨e,hj⟩=>nm (by omega) hj (by simp)
 ·exact(h.name hj).bind fun s j ⟨e,hj⟩=>(h.Lm p 199 [s] j hj rfl).bind fun l k ⟨q1,q2,q3⟩=>nm (by omega) q2 q3
 ·exact(Ac _ hj).bind fun x j hx=>kn1 p (ib i) hx
theorem WM(hex:I7 S ex)(Ac:I7 S ta):I7 S (S.WM ex ta):=by
 intro i hi;refine Rs.IJ.bind (P:=Kn S i) ?_ fun r j ⟨j1,j2,j3,j4,j5⟩=> ?_
 ·refine .p9 (fun _=> ?_) fun _=> .p9 (fun hc=>h.known p hex Ac hi (jS.1 hc)) fun _=> .er hi
  exact(h.block p Ac hi).bind fun l j ⟨q1,q2,q3,q4⟩=>⟨q1,q2,q3,q4,gx _⟩
 ·exact⟨j1,j2,.aBG (by decide) j3 (by omega) (p.fl j1 j2) (gu _) (gu _) (by omega) (gx _) fun l hl=>(by cases hl),gu _,gu _⟩
theorem both(q:afg S)(hl:S.len<=100000): ∀d:Nat,I7 S (S.u0 d)/\I7 S (S.DB d)
 |0=>⟨fun _ hi=> .er hi,fun _ hi=> .er hi⟩
 |d+1=>⟨h.ye p q hl (both q hl d).1 (both q hl d).2,h.WM p (both q hl d).1 (both q hl d).2⟩
theorem whole(q:afg S)(hl:S.len<=100000)(h0:0<S.len):S.whole.IJ S fun x j=>Rg x/\S.F 0<=x.from_/\x.to<=S.E j/\j<S.len:=by
 exact((h.both p q hl 200).1 0 h0).bind fun x j ⟨k1,k2,k3,k4,k5⟩=> .p9 (fun _=>⟨k3,k4,k5,k2⟩) fun _=> .er k2
end Zy
section
variable {Z:Cx}
theorem RP.step2{d:Int}{R:Type}{A:Nat->Nat->(((jX×Unit)×Unit)×(β×Unit))->Option R}{B:Nat->Nat->(((jX×Unit)×Unit)×(kr×Unit))->Option R}{Q:Rs α->R->Prop}
 (h:lI F (RP Z d rs)) (hok: ∀x j,rs= .ok x j->j<Z.T.length->lg (fun n m=>A n m (((Z.st j d,()),()),x,())) (Q (f x j))) (hpn: ∀p e a,rs= .er e a->lg (fun n m=>B n m (((p,()),()),{e:=e,at_:=a},())) (Q (.er e a)):=by intros;exact lg.pure ⟨_,rfl⟩):
 lg (fun n m=>(F n).bind fun x=>CJ x (A n m) (B n m)) (Q (rs.bind f)):=by
 refine lg.lQ h fun r hr=> ?_
 cases rs with
 |ok x j=>obtain⟨hj,rfl⟩:=hr;exact hok x j rfl hj
 |er e a=>obtain⟨p,rfl⟩:=hr;exact hpn p e a rfl
theorem afh(hc: ∀s,Ev (fun n=>mR n Z.sy s) (Z.sy.contains s)){i:Nat}{d:Int}(hi:i<Z.T.length):Ev (fun n=>tW n (Z.st i d)) (Z.S.II i):=by
 refine Ev.fn (fun n=>by simp only[tW,kG,zn,mB];exact rfl) ?_;refine Ev.bind (Cq hi) ?_;unfold Src.II;rw[MM hi];cases Z.T[i].kind==2 with
 |false=>exact Ev.pure
 |true=>
  simp only[jM,gw];cases Z.T[i].text==[95] with
  |true=>exact Ev.pure
  |false=>
   simp only[jN,gE,gw];exact Ev.bind (hc _) Ev.pure
def Nx(Z:Cx)(d:Int)(F:Nat->jX->Option (PR (((jX×Unit)×Unit)×(Syntax×Unit)) (((jX×Unit)×Unit)×(kr×Unit))))(r:Nat->Rs Syntax):Prop:=
 ∀i,i<Z.T.length->lI (fun n=>F n (Z.st i d)) (RP Z d (r i))
variable {ta:Nat->Rs Syntax} {d:Int}
theorem aq0(h:rU Z)(Ac:Nx Z d k9 ta): ∀(m:Nat)(x:Syntax)(i:Nat),i<Z.T.length->m<=199->
 lg (fun n q=>p7 (j6 n) n q ((200-m:Nat):Int) (Z.st i d) x) (RP Z d (Z.S.alts ta m x i)):=by
 intro m;induction m with
 |zero=>
  intro x i hi _;refine lg.lp (fun n m=>by simp only[zE,p6,ky,Cv];exact rfl) ?_;refine Ev.DC (qP h hi [60,124,62]) ?_;unfold Src.alts;cases hs:Z.S.sym [60,124,62] i with
  |false=>exact lg.pure ⟨hi,rfl⟩
  |true=>
   simp only[jM];refine Ev.DC (yZ h (rk hi) (k:=((200-0:Nat):Int)) (by omega)) ?_;exact lg.pure ⟨_,rfl⟩
 |succ m ih=>
  intro x i hi hm;refine lg.lp (fun n m=>by simp only[zE,p6,ky,Cv];exact rfl) ?_;refine Ev.DC (qP h hi [60,124,62]) ?_;unfold Src.alts;cases hs:Z.S.sym [60,124,62] i with
  |false=>exact lg.pure ⟨hi,rfl⟩
  |true=>
   simp only[jM];refine Ev.DC (Ab (rk hi) (k:=((200-(m+1):Nat):Int)) (by omega)) ?_;refine RP.step2 (Ac _ (rk hi)) (fun y j _ hj=> ?_)
   grind [wrap_small]
end
section
variable {Z:Cx}
variable {ta:Nat->Rs Syntax} {d:Int}
theorem aw4(h:rU Z)(Ac:Nx Z d k9 ta):Nx Z d mS (Z.S.alt ta):=by
 intro i hi;refine lI.fn (fun n=>by simp only[KG,sG,ky,yD];exact rfl) ?_;exact RP.step (Ac i hi) (fun x j _ hj=>lI.zH (F:=fun n q=>p7 (j6 n) n q 1 (Z.st j d) x) (aq0 h Ac 199 x j hj (gv _)))
theorem aq1(h:rU Z)(Ac:Nx Z d k9 ta): ∀(m:Nat)(out:List Syntax)(i:Nat),i<Z.T.length->m+out.length=200->
 lg (fun n q=>sB (j6 n) n q (Z.st i d) out) (RP Z d (Z.S.Ll ta m out i)):=by
 intro m;induction m with
 |zero=>
  intro out i hi hm;refine lg.lp (fun n m=>by simp only[Dy,sA,ky,Cv];exact rfl) ?_;refine Ev.DC (Ew hi [125]) ?_;unfold Src.Ll;cases hs:Z.S.sym [125] i with
  |true=>exact lg.pure ⟨hi,rfl⟩
  |false=>
   simp only[jN];refine Ev.DC (yZ h hi (k:=(out.length:Int)) (by omega)) ?_;exact lg.pure ⟨_,rfl⟩
 |succ m ih=>
  intro out i hi hm;refine lg.lp (fun n m=>by simp only[Dy,sA,ky,Cv];exact rfl) ?_;refine Ev.DC (Ew hi [125]) ?_;unfold Src.Ll;cases hs:Z.S.sym [125] i with
  |true=>exact lg.pure ⟨hi,rfl⟩
  |false=>
   simp only[jN];refine Ev.DC (Ab hi (k:=(out.length:Int)) (by omega)) ?_;refine RP.step2 (aw4 h Ac i hi) (fun x j _ hj=> ?_);simp only[jO (show(out.length+1)*120<=17592186044416 by omega),jM];refine Ev.DC (qP h hj [59]) ?_;cases hq:Z.S.sym [59] j with
   |true=>grind [rk]
   |false=>exact lg.pure ⟨hj,rfl⟩
theorem alv(h:rU Z)(Ac:Nx Z d k9 ta){i:Nat}(hi:i<Z.T.length):lI (fun n=>nZ n (Z.st i d)) (RP Z d (Z.S.aBD ta i)):=by
 refine lI.fn (fun n=>by simp only[QI,wi,ky,yD];exact rfl) ?_;exact lI.zH (F:=fun n q=>sB (j6 n) n q (Z.st i d) []) (aq1 h Ac 200 [] i hi rfl)
end
section
variable {Z:Cx}
variable {ta:Nat->Rs Syntax} {d:Int}
def RF(Z:Cx)(d:Int):Rs Syntax->PR (((jX×Unit)×((Syntax×Unit)×Unit))×Unit) (((jX×Unit)×((Syntax×Unit)×Unit))×(kr×Unit))->Prop
 | .ok x j,r=>j<Z.T.length/\r= .ok (((Z.st j d,()),(x,()),()),())
 | .er e a,r=> ∃p x,r= .pn (((p,()),(x,()),()),{e:=e,at_:=a},())
theorem ahq(h:rU Z)(Ac:Nx Z d k9 ta){i:Nat}(hi:i<Z.T.length)(x:Syntax):
 lI (fun n=>o9 n (Z.st i d) x) (RF Z d ((Z.S.block ta i).bind fun l j=> .ok (.mk x.kind x.text x.num x.names x.levels l x.from_ x.to) j)):=by
 refine lI.fn (fun n=>by simp only[UL,ya,ky,yD];exact rfl) ?_;unfold Src.block;rw[Rs.bind_assoc];refine RU.step (uO h hi [123]) (fun j _ hj=> ?_);rw[Rs.bind_assoc];refine RP.step (alv h Ac hj) (fun l k _ hk=> ?_);rw[Rs.bind_assoc];exact RU.step (uO h hk [125]) (fun q _ hq=>lI.pure ⟨hq,rfl⟩)
theorem atD (h:rU Z) (k:Zy Z.S) (Ac:Nx Z d k9 ta) {i:Nat} (hi:i<Z.T.length):
 lI (fun n=>qh n (Z.st i d) (.mk 0 [] 0 [] [] [] (Z.S.F i) 0)) (RF Z d (Z.S.fill ta i)):=by
 refine lI.fn (fun n=>by simp only[WF,yY,ky,yD];exact rfl) ?_;refine Ev.to (Cq hi) ?_;unfold Src.fill;rw[show(Z.S.K i).1=Z.T[i].kind by rw[MM hi]];cases h0:Z.T[i].kind==0 with
 |true=>
  simp only[jM];refine Ev.to (ve h hi) ?_;exact RP.step (aff h k (rk hi)) (fun l j _ hj=>lI.pure ⟨hj,rfl⟩)
 |false=>
  simp only[jN];refine Ev.to (qP h hi [64]) ?_;cases h1:Z.S.sym [64] i with
  |true=>
   simp only[jM];refine RP.step (alp h (rk hi)) (fun s j _ hj=> ?_);exact RP.step (aff h k hj) (fun l q _ hq=>lI.pure ⟨hq,rfl⟩)
  |false=>
   simp only[jN];refine Ev.to (qP h hi [95]) ?_;cases h2:Z.S.sym [95] i with
   |true=>exact lI.pure ⟨rk hi,rfl⟩
   |false=>
    simp only[jN];refine Ev.to (Cq hi) ?_;cases h3:Z.T[i].kind==1 with
    |true=>
     simp only[jM];exact RP.step (adB h hi) (fun l q _ hq=>lI.pure ⟨hq,rfl⟩)
    |false=>
     simp only[jN];refine Ev.to (aaX hi 3 [80,114,111,112]) ?_;unfold Src.key;cases h4:Z.S.is 3 [80,114,111,112] i with
     |true=>
      simp only[jM];refine Ev.to (ve h hi) ?_;exact lI.pure ⟨rk hi,rfl⟩
     |false=>
      simp only[jN];refine Ev.to (aaX hi 3 [84,121,112,101]) ?_;cases h5:Z.S.is 3 [84,121,112,101] i with
      |true=>
       simp only[jM];refine Ev.to (ve h hi) ?_;exact RP.step (aw1 h k (rk hi)) (fun l q _ hq=>lI.pure ⟨hq,rfl⟩)
      |false=>
       simp only[jN];refine Ev.to (qP h hi [40,41]) ?_;cases h6:Z.S.sym [40,41] i with
       |true=>exact lI.pure ⟨rk hi,rfl⟩
       |false=>
        simp only[jN];refine Ev.to (aaX hi 3 [98,121]) ?_;cases h7:Z.S.is 3 [98,121] i with
        |true=>
         simp only[jM];refine Ev.to (ve h hi) ?_;unfold Src.block;rw[Rs.bind_assoc];refine RU.step (uO h (rk hi) [123]) (fun j _ hj=> ?_);rw[Rs.bind_assoc];refine RP.step (alv h Ac hj) (fun l k _ hk=> ?_);rw[Rs.bind_assoc];exact RU.step (uO h hk [125]) (fun q _ hq=>lI.pure ⟨hq,rfl⟩)
        |false=>
         simp only[jN];refine Ev.to (MN h hi 4) ?_;exact lI.pure ⟨_,_,rfl⟩
end
section
variable {Z:Cx}
variable {ex ta:Nat->Rs Syntax} {d:Int}
theorem aq2(h:rU Z): ∀(m:Nat)(x:Syntax)(i:Nat),i<Z.T.length->m<=200->
 lg (fun n q=>qz (j6 n) n q ((200-m:Nat):Int) (Z.st i d) x) (RP Z d (Z.S.Gy m x i)):=by
 intro m;induction m with
 |zero=>
  intro x i hi _;refine lg.lp (fun n m=>by simp only[Gl,uN,ky,Cv];exact rfl) ?_;refine Ev.DC (Ew hi [46,49]) ?_;unfold Src.Gy;cases h1:Z.S.sym [46,49] i with
  |true=>
   refine Ev.DC (yZ h hi (k:=((200-0:Nat):Int)) (by omega)) ?_;exact lg.pure ⟨_,rfl⟩
  |false=>
   simp only[jN,gz];refine Ev.DC (Ew hi [46,50]) ?_;cases h2:Z.S.sym [46,50] i with
   |true=>
    refine Ev.DC (yZ h hi (k:=((200-0:Nat):Int)) (by omega)) ?_;exact lg.pure ⟨_,rfl⟩
   |false=>exact lg.pure ⟨hi,rfl⟩
 |succ m ih=>
  intro x i hi hm
  have go:lg (fun n q=>(lj n ((200-(m+1):Nat):Int) (Z.st i d)).bind fun x_1=>CJ x_1 (fun x_2=>(kW n x_2.fst.fst.fst).bind fun x_3=>
   bif x_3.snd.fst==[46,50] then(nT n x_3.fst.fst).bind fun x_4=>qz (j6 n) n q (IntKind.i64.wrap (((200-(m+1):Nat):Int)+1)) x_3.fst.fst (Syntax.mk 8 [] 0 [] [] [x] x.from_ x_4)
   else(nT n x_3.fst.fst).bind fun x_4=>qz (j6 n) n q (IntKind.i64.wrap (((200-(m+1):Nat):Int)+1)) x_3.fst.fst (Syntax.mk 7 [] 0 [] [] [x] x.from_ x_4)) fun y=>some (PR.pn (((y.fst.fst.fst,()),()),y.snd.fst,())))
   (RP Z d (Z.S.Gy m (.mk (bif (Z.S.K i).2==[46,50] then 8 else 7) [] 0 [] [] [x] x.from_ (Z.S.E (Z.S.nx i))) (Z.S.nx i))):=by
   refine Ev.DC (Ab hi (k:=((200-(m+1):Nat):Int)) (by omega)) ?_;refine Ev.DC (ve h hi) ?_;rw[show IntKind.i64.wrap (((200-(m+1):Nat):Int)+1)=((200-m:Nat):Int) by grind [wrap_small]];cases (Z.S.K i).2==[46,50] with
   |true=>
    refine Ev.DC (Sv h (rk hi)) ?_;exact ih _ _ (rk hi) (by omega)
   |false=>
    refine Ev.DC (Sv h (rk hi)) ?_;exact ih _ _ (rk hi) (by omega)
  refine lg.lp (fun n m=>by simp only[Gl,uN,ky,Cv];exact rfl) ?_;refine Ev.DC (Ew hi [46,49]) ?_;unfold Src.Gy;cases h1:Z.S.sym [46,49] i with
  |true=>exact go
  |false=>
   simp only[jN,gz];refine Ev.DC (Ew hi [46,50]) ?_;cases h2:Z.S.sym [46,50] i with
   |true=>exact go
   |false=>exact lg.pure ⟨hi,rfl⟩
theorem atE(h:rU Z)(hb:Nx Z d oZ (Z.S.basic ex ta)):Nx Z d oO (Z.S.Zx ex ta):=by
 intro i hi;refine lI.fn (fun n=>by simp only[WE,yX,ky,yD];exact rfl) ?_;exact RP.step (hb i hi) (fun x j _ hj=>lI.zH (F:=fun n q=>qz (j6 n) n q 0 (Z.st j d) x) (aq2 h 200 x j hj (gv _)))
theorem atF(h:rU Z)(ha:Nx Z d oO (Z.S.Zx ex ta)): ∀(m:Nat)(x:Syntax)(i:Nat),i<Z.T.length->m<=199->
 lg (fun n q=>vH (j6 n) n q ((200-m:Nat):Int) (Z.st i d) x) (RP Z d (Z.S.US ex ta m x i)):=by
 intro m;induction m with
 |zero=>
  intro x i hi _;refine lg.lp (fun n m=>by simp only[HR,vG,ky,Cv];exact rfl) ?_;refine Ev.DC (Xl hi) ?_;unfold Src.US;cases hs:Z.S.DA i with
  |false=>exact lg.pure ⟨hi,rfl⟩
  |true=>
   simp only[jM];refine Ev.DC (yZ h hi (k:=((200-0:Nat):Int)) (by omega)) ?_;exact lg.pure ⟨_,rfl⟩
 |succ m ih=>
  intro x i hi hm;refine lg.lp (fun n m=>by simp only[HR,vG,ky,Cv];exact rfl) ?_;refine Ev.DC (Xl hi) ?_;unfold Src.US;cases hs:Z.S.DA i with
  |false=>exact lg.pure ⟨hi,rfl⟩
  |true=>
   simp only[jM];refine Ev.DC (Ab hi (k:=((200-(m+1):Nat):Int)) (by omega)) ?_;refine RP.step2 (ha _ hi) (fun y j _ hj=> ?_)
   grind [wrap_small]
theorem aw5(h:rU Z)(ha:Nx Z d oO (Z.S.Zx ex ta)):Nx Z d pY (Z.S.app ex ta):=by
 intro i hi;refine lI.fn (fun n=>by simp only[XY,Aa,ky,yD];exact rfl) ?_;exact RP.step (ha i hi) (fun x j _ hj=>lI.zH (F:=fun n q=>vH (j6 n) n q 1 (Z.st j d) x) (atF h ha 199 x j hj (gv _)))
theorem atG(h:rU Z)(hc: ∀s,Ev (fun n=>mR n Z.sy s) (Z.sy.contains s))(ha:Nx Z d pY (Z.S.app ex ta)):Nx Z d n7 (Z.S.item ex ta):=by
 intro i hi;refine lI.fn (fun n=>by simp only[WD,yV,ky,yD];exact rfl) ?_;refine Ev.to (afh hc hi) ?_;unfold Src.item;cases hs:Z.S.II i with
 |true=>
  simp only[jM];refine Ev.to (Xj h hi) ?_;refine Ev.to (ve h hi) ?_;refine Ev.to (Sv h (rk hi)) ?_;exact lI.pure ⟨rk hi,rfl⟩
 |false=>
  simp only[jN];refine lI.bind (ha i hi) fun r hr=> ?_
  cases hq:Z.S.app ex ta i with
  |ok x j=>rw[hq] at hr;obtain⟨hj,rfl⟩:=hr;exact lI.pure ⟨hj,rfl⟩
  |er e a=>rw[hq] at hr;obtain⟨p,rfl⟩:=hr;exact lI.pure ⟨p,rfl⟩
end
section
variable {Z:Cx}
variable {ex ta:Nat->Rs Syntax} {d:Int}
theorem aq3(h:rU Z)(k:Zy Z.S)(Ac:Nx Z d k9 ta)
 (hp: ∀o i,i<Z.T.length->lI (fun n=>oH n (.mk 0 [] 0 [] [] [] (Z.S.F o) 0) (Z.st i d)) (RP Z d (Z.S.HZ ex o i))):Nx Z d oZ (Z.S.basic ex ta):=by
 intro i hi;refine lI.fn (fun n=>by simp only[UK,x9,ky,yD];exact rfl) ?_;refine Ev.to (Xj h hi) ?_;refine Ev.to (qP h hi [40]) ?_;unfold Src.basic;cases hs:Z.S.sym [40] i with
 |true=>
  simp only[jM];refine lI.bind (hp i _ (rk hi)) fun r hr=> ?_
  cases hq:Z.S.HZ ex i (Z.S.nx i) with
  |ok x j=>rw[hq] at hr;obtain⟨hj,rfl⟩:=hr;exact lI.pure ⟨hj,rfl⟩
  |er e a=>rw[hq] at hr;obtain⟨p,rfl⟩:=hr;exact lI.pure ⟨p,rfl⟩
 |false=>
  simp only[jN];refine lI.bind (atD h k Ac hi) fun r hr=> ?_
  cases hq:Z.S.fill ta i with
  |ok x j=>
   rw[hq] at hr;obtain⟨hj,rfl⟩:=hr;exact lI.bind (Ev.tot (Sv h hj) rfl) fun r hr=>by subst hr;exact lI.pure ⟨hj,rfl⟩
  |er e a=>rw[hq] at hr;obtain⟨p,x,rfl⟩:=hr;exact lI.pure ⟨p,rfl⟩
end
theorem bor(a b:Bool)(x y:α):(bif a||b then x else y)=bif a then x else bif b then x else y:=by cases a<;>rfl
theorem lI.ite{α R:Type}{c:Bool}{A B:Nat->Option R}{Q:α->R->Prop}{x y:α}(h1:c=true->lI A (Q x))(h2:c=false->lI B (Q y)):lI (fun n=>bif c then A n else B n) (Q (bif c then x else y)):=by
 cases c with
 |true=>exact h1 rfl
 |false=>exact h2 rfl
section
variable {Z:Cx}
variable {ex ta:Nat->Rs Syntax} {d:Int}
theorem atH(h:rU Z){i:Nat}{d:Int}(hi:i<Z.T.length):Ev (fun n=>xS n (Z.st i d)) (((Z.st (Z.S.nx i) d,()),()),(Z.S.K i).2,()):=by
 refine Ev.fn (fun n=>by simp only[xS,kG,Az,mC];exact rfl) ?_;refine Ev.bind (Cq hi) ?_;rw[MM hi];have hl:=h.len;have e:IntKind.i64.wrap ((i:Int)+1)=((i+1:Nat):Int):=kO (by omega);have e2:decide ((((i+1:Nat):Int))<(Z.T.length:Int))=decide (i+1<Z.T.length):=decide_eq_decide.2 (by omega);simp only[Cx.st,e,e2];have hlen:Z.S.len=Z.T.length:=rfl
 grind [Src.nx,Ev.pure]
def kT(w:Str)(f:Int)(r:List Str×List Syntax)(j:Nat):Rs Syntax:= .ok (.mk 15 w 0 r.1 [] r.2 f 0) j
theorem aq4(h:rU Z)(w:Str)(f:Int): ∀(m:Nat)(out:List Str)(i:Nat),i<Z.T.length->m+out.length=200->
 lg (fun n q=>uh (j6 n) n q (Z.st i d) 15 w 0 [] [] f 0 out) (RF Z d ((Z.S.Lm m out i).bind fun l j=>kT w f (l,[]) j)):=by
 intro m;induction m with
 |zero=>
  intro out i hi hm;refine lg.lp (fun n m=>by simp only[E5,ug,ky,Cv];exact rfl) ?_;refine Ev.DC (Cq hi) ?_;unfold Src.Lm;rw[show(Z.S.K i).1=Z.T[i].kind by rw[MM hi]];cases hs:Z.T[i].kind==0 with
  |false=>exact lg.pure ⟨hi,rfl⟩
  |true=>
   refine Ev.DC (yZ h hi (k:=(out.length:Int)) (by omega)) ?_;exact lg.pure ⟨_,_,rfl⟩
 |succ m ih=>
  intro out i hi hm;refine lg.lp (fun n m=>by simp only[E5,ug,ky,Cv];exact rfl) ?_;refine Ev.DC (Cq hi) ?_;unfold Src.Lm;rw[show(Z.S.K i).1=Z.T[i].kind by rw[MM hi]];cases hs:Z.T[i].kind==0 with
  |false=>exact lg.pure ⟨hi,rfl⟩
  |true=>
   refine Ev.DC (Ab hi (k:=(out.length:Int)) (by omega)) ?_;refine Ev.DC (atH h hi) ?_
   grind [rk]
theorem aq5(h:rU Z)(hex:Nx Z d kD ex)(Ac:Nx Z d k9 ta){i:Nat}(hi:i<Z.T.length)(w:Str)(f:Int):
 lI (fun n=>pU n (Z.st i d) (.mk 15 w 0 [] [] [] f 0)) (RF Z d ((Z.S.known ex ta w i).bind (kT w f))):=by
 have hj:=rk hi;have sk:=ve (d:=d) h hi;refine lI.fn (fun n=>by simp only[UM,yb,ky,yD];exact rfl) ?_;unfold Src.known;simp only[gH,List.contains_nil,gQ,bor,Syntax.ww]
 have hE:lI (fun n=>(kW n (Z.st i d)).bind fun x=>(kD n x.fst.fst).bind fun x=>CJ x (fun x=>some (PR.ok (((x.fst.fst.fst,()),(Syntax.mk 15 w 0 [] [] [x.snd.fst] f 0,()),()),()))) fun y=>some (PR.pn (((y.fst.fst.fst,()),(Syntax.mk 15 w 0 [] [] [] f 0,()),()),y.snd.fst,())))
  (RF Z d (((ex (Z.S.nx i)).bind fun x j=>Rs.ok (([],[x]):List Str×List Syntax) j).bind (kT w f))):=by
  refine Ev.to sk ?_;rw[Rs.bind_assoc];exact RP.step (hex _ hj) fun x j _ hj=>lI.pure ⟨hj,rfl⟩
 have hT:lI (fun n=>(kW n (Z.st i d)).bind fun x=>(k9 n x.fst.fst).bind fun x=>CJ x (fun x=>some (PR.ok (((x.fst.fst.fst,()),(Syntax.mk 15 w 0 [] [] [x.snd.fst] f 0,()),()),()))) fun y=>some (PR.pn (((y.fst.fst.fst,()),(Syntax.mk 15 w 0 [] [] [] f 0,()),()),y.snd.fst,())))
  (RF Z d (((ta (Z.S.nx i)).bind fun x j=>Rs.ok (([],[x]):List Str×List Syntax) j).bind (kT w f))):=by
  refine Ev.to sk ?_;rw[Rs.bind_assoc];exact RP.step (Ac _ hj) fun x j _ hj=>lI.pure ⟨hj,rfl⟩
 have hS:lI (fun n=>(kW n (Z.st i d)).bind fun x=>some (PR.ok (((x.fst.fst,()),(Syntax.mk 15 w 0 [] [] [] f 0,()),()),())))
  (RF Z d ((Rs.ok (([],[]):List Str×List Syntax) (Z.S.nx i)).bind (kT w f))):=by
  refine Ev.to sk ?_;exact lI.pure ⟨hj,rfl⟩
 have hN:lI (fun n=>(kW n (Z.st i d)).bind fun x=>(pI n x.fst.fst).bind fun x=>CJ x (fun x=>some (PR.ok (((x.fst.fst.fst,()),(Syntax.mk 15 w 0 [x.snd.fst] [] [] f 0,()),()),()))) fun y=>some (PR.pn (((y.fst.fst.fst,()),(Syntax.mk 15 w 0 [] [] [] f 0,()),()),y.snd.fst,())))
  (RF Z d (((Z.S.ML (Z.S.nx i)).bind fun x j=>Rs.ok (([x],[]):List Str×List Syntax) j).bind (kT w f))):=by
  refine Ev.to sk ?_;rw[Rs.bind_assoc];exact RP.step (ahm h hj) fun x j _ hj=>lI.pure ⟨hj,rfl⟩
 refine lI.ite (Q:=fun s=>RF Z d (Rs.bind s (kT w f))) (fun _=> ?_) fun _=> ?_
 ·refine Ev.to sk ?_;refine lI.bind (ahq h Ac hj _) fun r hr=> ?_
  cases hq:Z.S.block ta (Z.S.nx i) with
  |ok l j=>rw[hq] at hr;obtain⟨hj,rfl⟩:=hr;exact lI.pure ⟨hj,rfl⟩
  |er e a=>rw[hq] at hr;obtain⟨p,x,rfl⟩:=hr;exact lI.pure ⟨_,_,rfl⟩
 iterate 5 refine lI.ite (Q:=fun s=>RF Z d (Rs.bind s (kT w f))) (fun _=>hE) fun _=> ?_
 iterate 4 refine lI.ite (Q:=fun s=>RF Z d (Rs.bind s (kT w f))) (fun _=>hS) fun _=> ?_
 refine lI.ite (Q:=fun s=>RF Z d (Rs.bind s (kT w f))) (fun _=> ?_) fun _=> ?_
 ·refine Ev.to sk ?_;rw[Rs.bind_assoc];exact RP.step (Xk h hj) fun x j _ hj=>lI.pure ⟨hj,rfl⟩
 refine lI.ite (Q:=fun s=>RF Z d (Rs.bind s (kT w f))) (fun _=> ?_) fun _=> ?_
 ·refine Ev.to sk ?_;rw[Rs.bind_assoc];exact RP.step (atz h hj) fun x j _ hj=>lI.pure ⟨hj,rfl⟩
 iterate 4 refine lI.ite (Q:=fun s=>RF Z d (Rs.bind s (kT w f))) (fun _=>hN) fun _=> ?_
 refine lI.ite (Q:=fun s=>RF Z d (Rs.bind s (kT w f))) (fun _=> ?_) fun _=> ?_
 ·refine Ev.to sk ?_;rw[Rs.bind_assoc];refine RP.step (alp h hj) fun s j _ hj=> ?_
  rw[Rs.bind_assoc];exact lI.zH (F:=fun n q=>uh (j6 n) n q (Z.st j d) 15 w 0 [] [] f 0 [s]) (aq4 h w f 199 [s] j hj rfl)
 iterate 2 refine lI.ite (Q:=fun s=>RF Z d (Rs.bind s (kT w f))) (fun _=>hT) fun _=> ?_
 exact Ev.to (MN h hi 4) (lI.pure ⟨_,_,rfl⟩)
theorem stD{i:Nat}(hd:0<=d/\d<200):({so:=(Z.st i d).so,table:=(Z.st i d).table,xO:=(Z.st i d).xO,depth:=IntKind.i64.wrap ((Z.st i d).depth+1)}:jX)=Z.st i (d+1):=by
 show({so:=_,table:=_,xO:=_,depth:=IntKind.i64.wrap (d+1)}:jX)=_;rw[wrap_small (by omega) (by omega)];rfl
theorem aoe(p:jX):Ev (fun n=>pu n p) (((),({so:=p.so,table:=p.table,xO:=p.xO,depth:=IntKind.i64.wrap (p.depth-1)},()),()),()):=by
 refine Ev.fn (fun n=>by simp only[pu,kG,wR,mB];exact rfl) ?_;exact Ev.pure
theorem stU{i:Nat}(hd:0<=d/\d<200):({so:=(Z.st i (d+1)).so,table:=(Z.st i (d+1)).table,xO:=(Z.st i (d+1)).xO,depth:=IntKind.i64.wrap ((Z.st i (d+1)).depth-1)}:jX)=Z.st i d:=by
 show({so:=_,table:=_,xO:=_,depth:=IntKind.i64.wrap (d+1-1)}:jX)=_;rw[wrap_small (by omega) (by omega),show d+1-1=d by omega];rfl
theorem aof(h:rU Z)(hd:0<=d/\d<200)(hex:Nx Z (d+1) kD ex)(Ac:Nx Z (d+1) k9 ta):Nx Z d k9 (Z.S.WM ex ta):=by
 intro i hi;refine lI.fn (fun n=>by simp only[HX,uf,ky,yD];exact rfl) ?_;refine Ev.to (Ab hi (k:=d) hd.2) ?_;simp only[CJ,stD hd];refine Ev.to (Cq hi) ?_;refine Ev.to (Xj h hi) ?_;refine Ev.to (Ew hi [123]) ?_;unfold Src.WM;rw[show(Z.S.K i).1=Z.T[i].kind by rw[MM hi],show(Z.S.K i).2=Z.T[i].text by rw[MM hi]]
 have fin: ∀(s:Rs (List Str×List Syntax))(F:Nat->Option (PR (((jX×Unit)×((Syntax×Unit)×Unit))×Unit) (((jX×Unit)×((Syntax×Unit)×Unit))×(kr×Unit)))),lI F (RF Z (d+1) (s.bind (kT Z.T[i].text (Z.S.F i))))->
  lI (fun n=>(F n).bind fun x=>CJ x (fun x=>(nT n x.fst.fst.fst).bind fun x_4=>(pu n x.fst.fst.fst).bind fun x_5=>some (PR.ok (((x_5.fst.snd.fst.fst,()),()),Syntax.mk x.fst.snd.fst.fst.kind x.fst.snd.fst.fst.text x.fst.snd.fst.fst.num x.fst.snd.fst.fst.names x.fst.snd.fst.fst.levels x.fst.snd.fst.fst.kids x.fst.snd.fst.fst.from_ x_4,())))
   fun y=>(pu n y.fst.fst.fst).bind fun x=>some (PR.pn (((x.fst.snd.fst.fst,()),()),y.snd.fst,()))) (RP Z d (s.bind fun p j=> .ok (.mk 15 Z.T[i].text 0 p.1 [] p.2 (Z.S.F i) (Z.S.E j)) j)):=by
  intro s F hF;refine lI.bind hF fun r hr=> ?_
  cases s with
  |ok p j=>
   obtain⟨hj,rfl⟩:=hr;refine Ev.to (Sv h hj) (Ev.to (aoe _) ?_);rw[stU hd];exact lI.pure ⟨hj,rfl⟩
  |er e a=>
   obtain⟨p,x,rfl⟩:=hr;exact Ev.to (aoe _) (lI.pure ⟨_,rfl⟩)
 cases hs:Z.S.sym [123] i with
 |true=>
  refine fin ((Z.S.block ta i).bind fun l j=> .ok ([],l) j) _ ?_;have:=ahq h Ac hi (.mk 15 Z.T[i].text 0 [] [] [] (Z.S.F i) 0);rw[Rs.bind_assoc];exact this
 |false=>
  simp only[jN];refine Ev.to (Cq hi) ?_;refine lI.bind (DD h hi _) fun r hr=> ?_
  cases hk:Z.T[i].kind==0 with
  |false=>
   rw[hk] at hr;obtain⟨p,rfl⟩:=hr;exact Ev.to (aoe _) (lI.pure ⟨_,rfl⟩)
  |true=>
   rw[hk] at hr;obtain⟨_,rfl⟩:=hr;exact fin _ _ (aq5 h hex Ac hi _ _)
theorem aBH(h:rU Z):Nx Z 200 k9 (fun i=>Z.S.deep i):=by
 intro i hi;refine lI.fn (fun n=>by simp only[HX,uf,ky,yD];exact rfl) ?_;exact Ev.to (yZ h hi (k:=200) (by omega)) (lI.pure ⟨_,rfl⟩)
end
theorem Sw{p:UInt8->Bool}(h:(List.range 256).all (fun n=>p (UInt8.ofNat n))=true)(c:UInt8):p c=true:=by
 have:=List.all_eq_true.1 h c.toNat (List.mem_range.2 c.toNat_lt)
 rwa [UInt8.ofNat_toNat] at this
def aq6(c:UInt8):Bool:=(decide (97<=c.toNat)&&decide (c.toNat<=122))||(decide (65<=c.toNat)&&decide (c.toNat<=90))
def uX(c:UInt8):Bool:=aq6 c||c==95
def qH(c:UInt8):Bool:=decide (48<=c.toNat)&&decide (c.toNat<=57)
def Cr(c:UInt8):Bool:=uX c||(qH c||c==39)
def AN(c:UInt8):Int:=bif uX c then 1 else bif qH c then 2 else bif c==34 then 3 else 0
theorem MP(c:UInt8):Ev (fun n=>AW n (c.toNat:Int)) (AN c):=by
 refine Ev.fn (fun n=>by simp only[AW,kG,Oy,mB];exact rfl) ?_;refine Ev.congr Ev.pure (fun _=> ?_)
 have:=Sw (p:=fun c=>decide ((bif decide (97<=(c.toNat:Int)) then
  bif decide ((c.toNat:Int)<=122) then some 1
  else
   bif decide (65<=(c.toNat:Int)) then
    bif decide ((c.toNat:Int)<=90) then some 1
    else
     bif (c.toNat:Int)==95 then some 1
     else
      bif decide (48<=(c.toNat:Int)) then bif decide ((c.toNat:Int)<=57) then some 2 else bif (c.toNat:Int)==34 then some 3 else some 0
      else bif (c.toNat:Int)==34 then some 3 else some 0
   else
    bif (c.toNat:Int)==95 then some 1
    else
     bif decide (48<=(c.toNat:Int)) then bif decide ((c.toNat:Int)<=57) then some 2 else bif (c.toNat:Int)==34 then some 3 else some 0
     else bif (c.toNat:Int)==34 then some 3 else some 0
  else
   bif decide (65<=(c.toNat:Int)) then
    bif decide ((c.toNat:Int)<=90) then some 1
    else
     bif (c.toNat:Int)==95 then some 1
     else
      bif decide (48<=(c.toNat:Int)) then bif decide ((c.toNat:Int)<=57) then some 2 else bif (c.toNat:Int)==34 then some 3 else some 0
      else bif (c.toNat:Int)==34 then some 3 else some 0
   else
    bif (c.toNat:Int)==95 then some 1
    else
     bif decide (48<=(c.toNat:Int)) then bif decide ((c.toNat:Int)<=57) then some 2 else bif (c.toNat:Int)==34 then some 3 else some 0
     else bif (c.toNat:Int)==34 then some 3 else some 0)=some (AN c))) (jV) c
 exact jQ this
theorem aq7(c:UInt8):Ev (fun n=>Lo n (c.toNat:Int)) (aq6 c):=by
 refine Ev.fn (fun n=>by simp only[Lo,kG,LY,mB];exact rfl) ?_
 grind [Ev.pure,aq6]
theorem Ki(c:UInt8)(k:Nat)(hk:k<256):((c.toNat:Int)==(k:Int))=(c==UInt8.ofNat k):=by
 rw[gS];constructor
 ·grind [UInt8.ofNat_toNat]
 simp_all [Nat.mod_eq_of_lt]
theorem aiW(c:UInt8):Ev (fun n=>Hh n (c.toNat:Int)) (uX c):=by
 refine Ev.fn (fun n=>by simp only[Hh,kG,L7,mB];exact rfl) ?_;refine Ev.bind (aq7 c) ?_;unfold uX;cases aq6 c with
 |true=>exact Ev.pure
 |false=>
  simp only[jN,gz];rw[show((c.toNat:Int)==95)=(c==95) from Ki c 95 (by decide)];exact Ev.pure
theorem alw(c:UInt8):Ev (fun n=>NB n (c.toNat:Int)) (qH c):=by
 refine Ev.fn (fun n=>by simp only[NB,kG,Ot,mB];exact rfl) ?_
 grind [Ev.pure,qH]
theorem QL(c:UInt8):(AN c==1)=uX c:=by grind [AN]
theorem QM(c:UInt8):(AN c==2)=qH c:=by
 have:=Sw (p:=fun c=>(AN c==2)==qH c) (jV) c;exact eq_of_beq this
theorem Xm(c:UInt8):Ev (fun n=>wU n (c.toNat:Int)) (Cr c):=by
 refine Ev.fn (fun n=>by simp only[wU,kG,L8,mB];exact rfl) ?_;refine Ev.bind (MP c) ?_;rw[QL];unfold Cr;cases uX c with
 |true=>exact Ev.pure
 |false=>
  simp only[jN,gz];refine Ev.bind (MP c) ?_;rw[QM];cases qH c with
  |true=>exact Ev.pure
  |false=>
   simp only[jN,gz];rw[show((c.toNat:Int)==39)=(c==39) from Ki c 39 (by decide)];exact Ev.pure
def apo:Str:=[33,35,36,37,38,42,43,45,47,58,60,61,62,63,64,92,94,124,126]
def kws:List Str:=[[102,117,110],[108,101,116],[105,110],[83,105,103,109,97],[80,114,111,112],[84,121,112,101],
       [98,121],[97,120,105,111,109],[100,101,102],[116,104,101,111,114,101,109],
       [105,110,100,117,99,116,105,118,101],[102,117,110,99,116,105,111,110],[97,110,100],
       [101,110,100],[99,108,97,115,115],[105,110,115,116,97,110,99,101],
       [110,111,116,97,116,105,111,110],[110,97,109,101,115,112,97,99,101],[111,112,101,110],
       [99,104,101,99,107],[101,118,97,108],[105,109,112,111,114,116]]
def pL:List Str:=[[40],[41],[40,41],[123],[125],[91],[93],[44],[59],[58],[58,61],[45,62],[61,62],[124],[64],
     [43],[95],[46,123],[46,49],[46,50],[60,124,62]]
theorem aq8[BEq α][LawfulBEq α](xs:List α)(v:α)(hl:xs.length<4611686018427387904)
 (h: ∀n m k,L n (m+1) k=bif decide (k<(xs.length:Int)) then(wq xs k).bind fun x=>bif x==v then some true else L n m (IntKind.i64.wrap (k+1)) else some false):
 kR (fun n m=>L n m 0) (xs.contains v):=by
 have key: ∀d k:Nat,k+d=xs.length->kR (fun n m=>L n m (k:Int)) ((xs.drop k).contains v):=by
  intro d;induction d with
  |zero=>
   grind [kR.lp,kR.pure]
  |succ d ih=>
   intro k hk;have hlt:k<xs.length:=by omega
   refine kR.lp (fun n m=>h n m k) ?_;have:decide ((k:Int)<(xs.length:Int))=true:=jO (by omega);simp only[this];refine kR.idx hlt ?_;rw[gr hlt,gH];rw[show(v==xs[k])=(xs[k]==v) from gS.2 ⟨fun h=>by simpa using (jS.1 h).symm,fun h=>by simpa using (jS.1 h).symm⟩];cases xs[k]==v with
   |true=>exact kR.pure
   |false=>
    grind [kO]
 simpa using key xs.length 0 (by omega)
theorem YO(s:Str):Ev (fun n=>EF n s) (kws.contains s):=by
 refine Ev.fn (fun n=>by simp only[EF,kG,Ku,mB];exact rfl) ?_;exact Ev.zH (F:=fun n m=>DM n m s kws 0) (aq8 kws s (by decide) (fun n m k=>by simp only[Y8,DL,mB]))
theorem atI:Ev (fun n=>NC n) pL:=by
 refine Ev.fn (fun n=>by simp only[NC,kG,Ow,mB];exact rfl) ?_;exact Ev.pure
theorem aw6(k:Nat):JR (k+80)=some pL:=jV
theorem ahr:Ev (fun n=>JR n) pL:=by
 refine⟨80,fun n hn=> ?_⟩;obtain⟨k,rfl⟩: ∃k,n=k+80:=⟨n-80,by omega⟩;exact aw6 k
def DE:List (Str×Bool):=kws.map fun s=>(s,true)
theorem aog(k:Nat):Dg (k+250)=some ((DE,()),()):=jV
theorem acv:Ev (fun n=>Dg n) ((DE,()),()):=by
 refine⟨250,fun n hn=> ?_⟩;obtain⟨k,rfl⟩: ∃k,n=k+250:=⟨n-250,by omega⟩;exact aog k
theorem Zz(s:Str): ∀xs:List Str,(mW s (xs.map fun x=>(x,true))).getD false=xs.contains s
 |[]=>rfl
 |x::xs=>by
  rw[List.map_cons,mW,gH];cases s==x with
  |true=>rfl
  |false=>exact Zz s xs
theorem aoh(s:Str):Ev (fun n=>Jl n s) (kws.contains s):=by
 refine Ev.fn (fun n=>by simp only[Jl,kG,KD,mB];exact rfl) ?_;refine Ev.bind acv ?_;rw[<-Zz];exact Ev.pure
abbrev big:Nat:=4611686018427387904
theorem drop_cons{s:Str}{k:Nat}(h:k<s.length):s.drop k=s[k]::s.drop (k+1):=gr h
def runT(p:UInt8->Bool)(r:Str):Nat:=(r.takeWhile p).length
theorem alx(p:UInt8->Bool):runT p []=0:=rfl
theorem pK(p:UInt8->Bool)(c:UInt8)(r:Str):runT p (c::r)=bif p c then runT p r+1 else 0:=by
 grind [runT,List.takeWhile_cons]
theorem Jp(p:UInt8->Bool): ∀r:Str,runT p r<=r.length
 |[]=>gv _
 |c::r=>by rw[pK];have:=Jp p r;grind
theorem aly{R:Type}{s:Str}(hs:s.length<big)(p:UInt8->Bool){L:Nat->Nat->Int->Option R}{r:R}
 (step: ∀k:Nat,∀hk:k<s.length,p s[k]=true->kR (fun n m=>L n m ((k+1:Nat):Int)) r->kR (fun n m=>L n m (k:Int)) r)
 (stop: ∀k:Nat,k<=s.length->(∀hk:k<s.length,p s[k]=false)->k=N->kR (fun n m=>L n m (k:Int)) r):
 ∀k:Nat,k<=s.length->k+runT p (s.drop k)=N->kR (fun n m=>L n m (k:Int)) r:=by
 have key: ∀d k:Nat,k+d=s.length->k+runT p (s.drop k)=N->kR (fun n m=>L n m (k:Int)) r:=by
  intro d;induction d with
  |zero=>
   grind [alx]
  |succ d ih=>
   intro k hk hN;have hlt:k<s.length:=by omega
   rw[drop_cons hlt,pK] at hN
   grind
 intro k hk hN;exact key (s.length-k) k (by omega) hN
def sC(r:Str):Nat:=runT Cr r
theorem aiX(s:Str)(hs:s.length<big)(k:Nat)(hk:k<=s.length):Ev (fun n=>Fi n s (k:Int)) ((k+sC (s.drop k):Nat):Int):=by
 refine Ev.fn (fun n=>by simp only[Fi,kG,Hv,mB];exact rfl) ?_;refine Ev.zH (F:=fun n m=>xG n m s (k:Int)) ?_;refine aly hs Cr (L:=fun n m k=>xG n m s k) (N:=k+sC (s.drop k)) ?_ ?_ k hk rfl
 ·intro k hlt hp next
  refine kR.lp (fun n m=>by simp only[J5,xF,mB];exact rfl) ?_;have:decide ((k:Int)<(s.length:Int))=true:=jO (by omega);simp only[this,jM];refine kR.idx hlt (kR.lQ (aiW _) ?_);rw[kO (by simp only[big] at hs;omega)];unfold Cr at hp;cases hb:uX s[k] with
  |true=>simp only[jM];exact next
  |false=>
   simp only[jN];refine kR.idx hlt (kR.lQ (alw _) ?_);cases hd:qH s[k] with
   |true=>simp only[jM];exact next
   |false=>
    simp only[jN];refine kR.idx hlt ?_
    simp_all
 ·intro k hle hp hN;refine kR.lp (fun n m=>by simp only[J5,xF,mB];exact rfl) ?_;by_cases hlt:k<s.length
  ·have:decide ((k:Int)<(s.length:Int))=true:=jO (by omega);have hp:=hp hlt;unfold Cr at hp;simp only[hO] at hp;obtain⟨h1,h2,h3⟩:=hp;simp only[this,jM];refine kR.idx hlt (kR.lQ (aiW _) ?_);simp only[h1,jN];refine kR.idx hlt (kR.lQ (alw _) ?_);simp only[h2,jN];refine kR.idx hlt ?_;rw[show((s[k].toNat:Int)==39)=(s[k]==39) from Ki _ 39 (by decide),h3]
   grind [kR.pure]
  grind [kR.pure]
noncomputable def Kj (r:Str):Nat:=
 match h:r.drop (sC r) with
 |d::c::t=>bif d==46&&uX c then sC r+(1+Kj (c::t)) else sC r
 |_=>sC r
termination_by r.length
decreasing_by
 grind [gN]
noncomputable def tlT:Str->Nat
 |d::c::t=>bif d==46&&uX c then 1+Kj (c::t) else 0
 |_=>0
theorem AO(r:Str):Kj r=sC r+tlT (r.drop (sC r)):=by
 grind [Kj,tlT]
theorem aaY(r:Str):sC r<=r.length:=Jp _ _
theorem atJ: ∀r:Str,tlT r<=r.length:=by
 intro r;induction h:r.length using hU generalizing r with
 |ind k ih=>
  unfold tlT
  grind [aaY,AO]
theorem abS(r:Str):Kj r<=r.length:=by
 grind [aaY,atJ,AO]
def Oc{R:Type}(F:Nat->Nat->Nat->Option R)(r:R):Prop:= ∃N,∀n m p,N<=n->N<=m->N<=p->F n m p=some r
section ev3
variable {R S:Type}
theorem Oc.lp{F G:Nat->Nat->Nat->Option R}{r:R}(h: ∀n m p,F n m (p+1)=G n m p)(hg:Oc G r):Oc F r:=by
 obtain⟨N,hN⟩:=hg;refine⟨N+1,fun n m p h1 h2 h3=> ?_⟩;obtain⟨q,rfl⟩: ∃q,p=q+1:=⟨p-1,by omega⟩
 grind
theorem Oc.DC{F:Nat->Nat->Nat->Option R}{r:R}(h:Oc F r):kR (fun n m=>F n m n) r:=by
 obtain⟨N,hN⟩:=h;exact⟨N,fun n m h1 h2=>hN n m n h1 h2 h1⟩
theorem Oc.zH{F:Nat->Nat->Option R}{r:R}(h:kR F r):Oc (fun n m _=>F n m) r:=by
 obtain⟨N,hN⟩:=h;exact⟨N,fun n m p h1 h2 _=>hN n m h1 h2⟩
theorem Oc.pure{r:R}:Oc (fun _ _ _=>some r) r:=⟨0,fun _ _ _ _ _ _=>rfl⟩
theorem Oc.lQ{F:Nat->Option S}{G:Nat->Nat->Nat->S->Option R}{x:S}{r:R}(h:Ev F x)(hg:Oc (fun n m p=>G n m p x) r):Oc (fun n m p=>(F n).bind (G n m p)) r:=by
 obtain⟨N,hN⟩:=h;obtain⟨M,hM⟩:=hg;refine⟨max N M,fun n m p h1 h2 h3=> ?_⟩
 grind
theorem Oc.idx{xs:List S}{i:Nat}{G:Nat->Nat->Nat->S->Option R}{r:R}(hi:i<xs.length)(hg:Oc (fun n m p=>G n m p xs[i]) r):Oc (fun n m p=>(wq xs (i:Int)).bind (G n m p)) r:=by
 grind [wq]
end ev3
theorem aq9{R:Type}{s:Str}(p:UInt8->Bool){L:Nat->Nat->Nat->Int->Option R}{r:R}
 (step: ∀k:Nat,∀hk:k<s.length,p s[k]=true->Oc (fun n m q=>L n m q ((k+1:Nat):Int)) r->Oc (fun n m q=>L n m q (k:Int)) r)
 (stop: ∀k:Nat,k<=s.length->(∀hk:k<s.length,p s[k]=false)->k=N->Oc (fun n m q=>L n m q (k:Int)) r):
 ∀k:Nat,k<=s.length->k+runT p (s.drop k)=N->Oc (fun n m q=>L n m q (k:Int)) r:=by
 have key: ∀d k:Nat,k+d=s.length->k+runT p (s.drop k)=N->Oc (fun n m q=>L n m q (k:Int)) r:=by
  intro d;induction d with
  |zero=>
   grind [alx]
  |succ d ih=>
   intro k hk hN;have hlt:k<s.length:=by omega
   rw[drop_cons hlt,pK] at hN
   grind
 intro k hk hN;exact key (s.length-k) k (by omega) hN
abbrev Scn:=(Str×Int×Unit)×List (Str×Bool)×List (Str×Bool)×List (Str×Bool)×Unit
def scn(s:Str)(at_:Int)(r1 r2 r3:List (Str×Bool)):Scn:=((s,at_,()),r1,r2,r3,())
def pk(x:Scn)(r:Int×Int×Int):Scn×Int×Int×Int×Unit:=(x,r.1,r.2.1,r.2.2,())
def ahs(s:Str)(at_:Nat)(r1 r2:List (Str×Bool))(to:Nat):Int×Int×Int:=
 bif decide ((64:Int)<(((s.take to).drop at_).length:Int)) then(0,at_,5)
 else bif (s.take to).drop at_==[95] then(2,to,0)
 else bif (mW ((s.take to).drop at_) r2).getD false then(2,to,0)
 else bif (mW ((s.take to).drop at_) r1).getD false then(3,to,0)
 else(0,to,0)
theorem aw7 (s:Str) (hs:s.length<big) (at_:Nat) (r1 r2 r3:List (Str×Bool)) (ha:at_<=s.length):
 Ev (fun n=>Bm n s (at_:Int) r1 r2 r3) (pk (scn s at_ r1 r2 r3) (ahs s at_ r1 r2 (at_+Kj (s.drop at_)))):=by
 simp only[big] at hs
 have fin: ∀to:Nat,at_<=to->to<=s.length->Oc (fun n m p=>bif decide ((0:Int)<=(at_:Int)/\(at_:Int)<=(to:Int)/\(to:Int)<=(s.length:Int)) then
  bif decide ((64:Int)<((hJ (at_:Int).toNat (List.take (to:Int).toNat s)).length:Int)) then
   some (((s,(at_:Int),()),r1,r2,r3,()),(0:Int),(at_:Int),(5:Int),())
  else
   bif hJ (at_:Int).toNat (List.take (to:Int).toNat s)==[95] then
    some (((s,(at_:Int),()),r1,r2,r3,()),(2:Int),(to:Int),(0:Int),())
   else
    bif (mW (hJ (at_:Int).toNat (List.take (to:Int).toNat s)) r2).getD false then
     some (((s,(at_:Int),()),r1,r2,r3,()),(2:Int),(to:Int),(0:Int),())
    else
     bif (mW (hJ (at_:Int).toNat (List.take (to:Int).toNat s)) r1).getD false then
      some (((s,(at_:Int),()),r1,r2,r3,()),(3:Int),(to:Int),(0:Int),())
     else some (((s,(at_:Int),()),r1,r2,r3,()),(0:Int),(to:Int),(0:Int),())
  else none) (pk (scn s at_ r1 r2 r3) (ahs s at_ r1 r2 to)):=by
  intro to h1 h2;have e:decide ((0:Int)<=(at_:Int)/\(at_:Int)<=(to:Int)/\(to:Int)<=(s.length:Int))=true:=jO (by omega);simp only[e,jM,gD];unfold ahs;cases decide ((64:Int)<(((s.take to).drop at_).length:Int)) with
  |true=>exact Oc.pure
  |false=>
   cases (s.take to).drop at_==[95] with
   |true=>exact Oc.pure
   |false=>
    cases (mW ((s.take to).drop at_) r2).getD false with
    |true=>exact Oc.pure
    |false=>
     cases (mW ((s.take to).drop at_) r1).getD false with
     |true=>exact Oc.pure
     |false=>exact Oc.pure
 have outer: ∀k:Nat,at_<=k->k<=s.length->kR (fun n m=>qx n m (k:Int) s (at_:Int) r1 r2 r3) (pk (scn s at_ r1 r2 r3) (ahs s at_ r1 r2 (k+Kj (s.drop k)))):=by
  intro k;induction h:s.length-k using hU generalizing k with
  |ind d ih=>
   intro hak hk;refine kR.lp (G:=fun n m=>rW n (qx n m) n (k:Int) s (at_:Int) r1 r2 r3) (fun n m=>by simp_all [Qc,xV]) ?_;refine Oc.DC (F:=fun n m p=>rW n (qx n m) p (k:Int) s (at_:Int) r1 r2 r3) ?_
   have hbase: ∀q:Nat,k<=q->q=k+sC (s.drop k)->k+Kj (s.drop k)=q+tlT (s.drop q):=by
    grind [AO,gL]
   refine aq9 (s:=s) Cr (L:=fun n m p k=>rW n (qx n m) p k s (at_:Int) r1 r2 r3) (N:=k+sC (s.drop k)) ?_ ?_ k hk rfl
   ·intro q hlt hp next
    refine Oc.lp (fun n m p=>by simp only[FX,uG,mB];exact rfl) ?_;have e:decide ((q:Int)<(s.length:Int))=true:=jO (by omega);simp only[e,jM];refine Oc.idx hlt (Oc.lQ (Xm _) ?_);rw[hp,kO (by omega)]
    grind
   ·intro q hle hp hN;have hq:=aaY (s.drop k);rw[gF] at hq;rw[hbase q (by omega) hN];refine Oc.lp (fun n m p=>by simp only[FX,uG,mB];exact rfl) ?_;rw[kO (by omega)];have stop:tlT (s.drop q)=0->q+tlT (s.drop q)=q:=by omega
    by_cases hlt:q<s.length
    ·have e:decide ((q:Int)<(s.length:Int))=true:=jO (by omega);simp only[e,jM];refine Oc.idx hlt (Oc.lQ (Xm _) ?_);rw[hp hlt];simp only[jN];by_cases h1:q+1<s.length
     ·have e1:decide ((s.length:Int)<=((q+1:Nat):Int))=false:=jP (by omega);simp only[e1,jN];refine Oc.idx hlt ?_;rw[show((s[q].toNat:Int) !=46)= !(s[q]==46) from by rw[bne,show((s[q].toNat:Int)==46)=(s[q]==46) from Ki _ 46 (by decide)]];rw[drop_cons hlt,drop_cons h1];simp only[tlT];cases s[q]==46 with
      |false=>
       simp only[gE,jM,iv,jN,ii];exact fin q (by omega) hle
      |true=>
       simp only[gK,jN,gw];refine Oc.idx h1 (Oc.lQ (MP _) ?_);rw[bne,QL];cases uX s[q+1] with
       |false=>
        simp only[gE,jM,jN,ii];exact fin q (by omega) hle
       |true=>
        simp only[gK,jN,jM];have:=ih (s.length-(q+1)) (by omega) (q+1) rfl (by omega) (by omega);rw[drop_cons h1] at this
        grind [Oc.zH]
     ·have e1:decide ((s.length:Int)<=((q+1:Nat):Int))=true:=jO (by omega)
      have:tlT (s.drop q)=0:=by
       have hl:(s.drop q).length<=1:=by rw[gF];omega
       match s.drop q,hl with
       |[],_=>rfl
       |[_],_=>rfl
       |_::_::_,hl=>simp at hl
      rw[stop this];simp only[e1,jM];exact fin q (by omega) hle
    ·have e:decide ((q:Int)<(s.length:Int))=false:=jP (by omega);have e1:decide ((s.length:Int)<=((q+1:Nat):Int))=true:=jO (by omega);rw[gy (show s.length<=q by omega)];simp only[e,e1,jM,jN,tlT,ii];exact fin q (by omega) hle
 refine Ev.fn (fun n=>by simp only[Bm,kG,Di,mC];exact rfl) ?_
 grind [Ev.zH]
def UT(r:Str):Int×Nat×Int:=
 bif decide (6<runT qH r) then(0,0,5)
 else bif decide (1<runT qH r)&&r.head?==some 48 then(0,0,4)
 else match r.drop (runT qH r) with
  |d::_=>bif uX d||d==39 then(0,runT qH r,4) else(1,runT qH r,0)
  |[]=>(1,runT qH r,0)
def alz(at_:Nat)(r:Int×Nat×Int):Int×Int×Int:=(r.1,((at_+r.2.1:Nat):Int),r.2.2)
theorem atL{a b:Nat}(h:b<=a)(ha:a<big):IntKind.i64.wrap ((a:Int)-(b:Int))=((a-b:Nat):Int):=by
 grind [wrap_small]
theorem ara (s:Str) (hs:s.length<big) (at_:Nat) (r1 r2 r3:List (Str×Bool)) (ha:at_<s.length):
 Ev (fun n=>yK n s (at_:Int) r1 r2 r3) (pk (scn s at_ r1 r2 r3) (alz at_ (UT (s.drop at_)))):=by
 refine Ev.fn (fun n=>by simp only[yK,kG,Bo,mC];exact rfl) ?_;have hr:=Jp qH (s.drop at_);rw[gF] at hr;have hd0:s.drop at_=s[at_]::s.drop (at_+1):=drop_cons ha;refine Ev.zH (F:=fun n m=>sW n m (at_:Int) s (at_:Int) r1 r2 r3) ?_;have hb:s.length<4611686018427387904:=hs
 have fin: ∀q:Nat,q=at_+runT qH (s.drop at_)->(∀hq:q<s.length,qH s[q]=false)->kR (fun n m=>bif decide (6<IntKind.i64.wrap ((q:Int)-(at_:Int))) then some (((s,(at_:Int),()),r1,r2,r3,()),(0:Int),(at_:Int),(5:Int),())
  else
   bif decide (1<IntKind.i64.wrap ((q:Int)-(at_:Int))) then
    (wq s (at_:Int)).bind fun x=>
      bif (x.toNat:Int)==48 then some (((s,(at_:Int),()),r1,r2,r3,()),(0:Int),(at_:Int),(4:Int),())
      else
       bif decide ((q:Int)<(s.length:Int)) then
        (wq s (q:Int)).bind fun x=>
          (wU n (x.toNat:Int)).bind fun x=>
            bif x then some (((s,(at_:Int),()),r1,r2,r3,()),(0:Int),(q:Int),(4:Int),())
            else some (((s,(at_:Int),()),r1,r2,r3,()),(1:Int),(q:Int),(0:Int),())
       else some (((s,(at_:Int),()),r1,r2,r3,()),(1:Int),(q:Int),(0:Int),())
   else
    bif decide ((q:Int)<(s.length:Int)) then
     (wq s (q:Int)).bind fun x=>
       (wU n (x.toNat:Int)).bind fun x=>
         bif x then some (((s,(at_:Int),()),r1,r2,r3,()),(0:Int),(q:Int),(4:Int),())
         else some (((s,(at_:Int),()),r1,r2,r3,()),(1:Int),(q:Int),(0:Int),())
    else some (((s,(at_:Int),()),r1,r2,r3,()),(1:Int),(q:Int),(0:Int),())) (pk (scn s at_ r1 r2 r3) (alz at_ (UT (s.drop at_)))):=by
  intro q hq hdq
  have hsub:IntKind.i64.wrap ((q:Int)-(at_:Int))=((runT qH (s.drop at_):Nat):Int):=by
   rw[atL (by omega) (by simp only[big];omega)];congr 1;omega
  have e6:decide ((6:Int)<((runT qH (s.drop at_):Nat):Int))=decide (6<runT qH (s.drop at_)):=decide_eq_decide.2 (by omega);have e1:decide ((1:Int)<((runT qH (s.drop at_):Nat):Int))=decide (1<runT qH (s.drop at_)):=decide_eq_decide.2 (by omega)
  have rest:kR (fun n m=>bif decide ((q:Int)<(s.length:Int)) then
        (wq s (q:Int)).bind fun x=>
          (wU n (x.toNat:Int)).bind fun x=>
            bif x then some (((s,(at_:Int),()),r1,r2,r3,()),(0:Int),(q:Int),(4:Int),())
            else some (((s,(at_:Int),()),r1,r2,r3,()),(1:Int),(q:Int),(0:Int),())
        else some (((s,(at_:Int),()),r1,r2,r3,()),(1:Int),(q:Int),(0:Int),())) (pk (scn s at_ r1 r2 r3) (alz at_ (match (s.drop at_).drop (runT qH (s.drop at_)) with
  |d::_=>bif uX d||d==39 then(0,runT qH (s.drop at_),4) else(1,runT qH (s.drop at_),0)
  |[]=>(1,runT qH (s.drop at_),0)))):=by
   rw[gL,<-hq];by_cases hlt:q<s.length
   ·have e:decide ((q:Int)<(s.length:Int))=true:=jO (by omega);simp only[e,jM,drop_cons hlt];refine kR.idx hlt (kR.lQ (Xm _) ?_);have hd:=hdq hlt;unfold Cr;rw[hd,gz];cases (uX s[q]||s[q]==39) with
    |true=>simp only[jM];rw[show(q:Int)=((at_+runT qH (s.drop at_):Nat):Int) from by rw[hq]];exact kR.pure
    |false=>simp only[jN];rw[show(q:Int)=((at_+runT qH (s.drop at_):Nat):Int) from by rw[hq]];exact kR.pure
   ·have e:decide ((q:Int)<(s.length:Int))=false:=jP (by omega);simp only[e,jN,gy (show s.length<=q by omega)];rw[show(q:Int)=((at_+runT qH (s.drop at_):Nat):Int) from by rw[hq]];exact kR.pure
  unfold UT;simp only[hsub,e6,e1];cases decide (6<runT qH (s.drop at_)) with
  |true=>simp only[jM];exact kR.pure
  |false=>
   simp only[jN];cases decide (1<runT qH (s.drop at_)) with
   |false=>grind
   |true=>
    simp only[jM,gw];refine kR.idx ha ?_;rw[show((s[at_].toNat:Int)==48)=(s[at_]==48) from Ki _ 48 (by decide)];have hh:((s.drop at_).head?==some 48)=(s[at_]==48):=by rw[hd0];rfl
    rw[hh];cases s[at_]==48 with
    |true=>simp only[jM];exact kR.pure
    |false=>simp only[jN];exact rest
 refine aly hs qH (L:=fun n m k=>sW n m k s (at_:Int) r1 r2 r3) (N:=at_+runT qH (s.drop at_)) ?_ ?_ at_ (by omega) rfl
 ·intro q hlt hp next
  refine kR.lp (fun n m=>by simp only[D7,sV,mB];exact rfl) ?_;have e:decide ((q:Int)<(s.length:Int))=true:=jO (by omega);simp only[e,jM];refine kR.idx hlt (kR.lQ (MP _) ?_);rw[QM,hp,kO (by omega)]
  grind
 ·intro q hle hp hN;refine kR.lp (fun n m=>by simp only[D7,sV,mB];exact rfl) ?_;by_cases hlt:q<s.length
  ·have e:decide ((q:Int)<(s.length:Int))=true:=jO (by omega);have f:=fin q hN hp;simp only[e,jM] at f ⊢;refine kR.idx hlt (kR.lQ (MP _) ?_);rw[QM,hp hlt]
   grind
  ·have e:decide ((q:Int)<(s.length:Int))=false:=jP (by omega);have f:=fin q hN hp
   grind
def whB(c:UInt8):Bool:=c==32||(c==9||(c==13||c==10))
def n10(c:UInt8):Bool:= !(c==10)
theorem apq(c:UInt8):n10 c= !(c==10):=rfl
def nQ:Bool->Str->Nat
 |_,[]=>0
 |true,x::r=>bif x==10 then nQ false r+1 else nQ true r+1
 |false,x::r=>bif whB x then nQ false r+1 else bif x==45&&r.head?==some 45 then nQ true r+1 else 0
theorem aht(b:Bool):nQ b []=0:=by cases b<;>rfl
theorem H6: ∀(b:Bool)(r:Str),nQ b r<=r.length
 |b,[]=>by exact gv _
 |true,x::r=>by
  rw[nQ];have h1:=H6 false r;have h2:=H6 true r
  grind
 |false,x::r=>by
  rw[nQ];have h1:=H6 false r;have h2:=H6 true r
  grind
theorem afi: ∀r:Str,nQ true r=runT n10 r+nQ false (r.drop (runT n10 r))
 |[]=>rfl
 |x::r=>by
  rw[nQ,pK,apq];cases hx:x==10 with
  |true=>
   grind [nQ,whB]
  |false=>
   simp only[jN,gE,jM];rw[afi r,List.drop_succ_cons];omega
theorem arb{r:Str}(h:r.head?=some 45)(h2:(r.drop 1).head?=some 45):nQ false r=nQ true r:=by
 match r,h with
 |x::t,h=>
  obtain rfl:x=45:=by simpa using h
  have h2:t.head?=some 45:=h2;rw[nQ,nQ,h2];rfl
theorem aoi{x:UInt8}{r:Str}(h:whB x=true):nQ false (x::r)=nQ false r+1:=by rw[nQ,h,jM]
theorem skip_none{x:UInt8}{r:Str}(h:whB x=false)(h2:(x==45&&r.head?==some 45)=false):nQ false (x::r)=0:=by grind [nQ]
theorem aw8{s:Str}{k:Nat}(h:k<s.length)(e:s[k]=45):0<runT n10 (s.drop k):=by
 grind [drop_cons,pK,n10]
theorem alD: ∀r:Str,(il r [10]= -1/\runT n10 r=r.length)\/(il r [10]=(runT n10 r:Int)/\runT n10 r<r.length)
 |[]=> .inl ⟨rfl,rfl⟩
 |x::r=>by
  rw[pK];unfold il
  have e:([10]:Str).isPrefixOf (x::r)=(x==10):=by
   grind
  rw[e,apq];cases x==10 with
  |true=>exact .inr ⟨rfl,by simp⟩
  |false=>
   have:=alD r
   grind
theorem aw9(r:Str):(Lib.cut r [10]).1.length=runT n10 r:=by
 grind [Lib.cut,alD]
theorem aiY(s p:Str):Ev (fun n=>CC n s p) (decide (p.length<=s.length)&&s.take p.length==p):=by
 refine Ev.fn (fun n=>by simp only[CC,kG,Ep,mB];exact rfl) ?_;refine Ev.fn (fun n=>by simp only[uT,kG,tN,mB];exact rfl) ?_
 grind [Ev.pure]
theorem afj(k:Nat)(c:UInt8):vp (k+40) [32,9,13,10] (IntKind.i32.wrap (c.toNat:Int))=some (whB c):=by
 have:=Sw (p:=fun c=>decide (vp (k+40) [32,9,13,10] (IntKind.i32.wrap (c.toNat:Int))=some (whB c))) (jV) c;exact jQ this
abbrev X6:Nat:=4294967281
theorem adn(c:UInt8):Ev (fun n=>vp n [32,9,13,10] (IntKind.i32.wrap (c.toNat:Int))) (whB c):=by
 refine⟨40,fun n hn=> ?_⟩;obtain⟨k,rfl⟩: ∃k,n=k+40:=⟨n-40,by omega⟩;exact afj k c
theorem azD(r:Str)(h:r.length<X6):Ev (fun n=>strings_Cut n r [10]) (Lib.cut r [10]):=by
 refine⟨1,fun n hn=> ?_⟩;obtain⟨k,rfl⟩: ∃k,n=k+1:=⟨n-1,by omega⟩;show(bif decide (r.length<4294967281) then some (Lib.cut r [10]) else none)=_;rw[jO h];rfl
theorem acw(s sub:Str)(h:s.length<X6):Ev (fun n=>strings_Contains n s sub) (gJ s sub):=by
 refine⟨1,fun n hn=> ?_⟩;obtain⟨k,rfl⟩: ∃k,n=k+1:=⟨n-1,by omega⟩;show(bif decide (s.length<4294967281) then some (gJ s sub) else none)=_;rw[jO h];rfl
theorem arc{s:Str}{k:Nat}(h:k<s.length):wq (s.drop k) 0=some s[k]:=by
 rw[drop_cons h];rfl
theorem atM{s:Str}{k:Nat}:(decide (([45,45]:Str).length<=(s.drop k).length)&&(s.drop k).take ([45,45]:Str).length==[45,45])=((s.drop k).head?==some 45&&(s.drop (k+1)).head?==some 45):=by
 rw[show s.drop (k+1)=(s.drop k).drop 1 from by rw[gL]]
 match s.drop k with
 |[]=>rfl
 |[a]=>simp
 |a::b::t=>
  simp
theorem ard(s:Str)(hs:s.length<X6)(r1 r2 r3:List (Str×Bool)): ∀k:Nat,k<=s.length->
 kR (fun n m=>xX n m s (k:Int) r1 r2 r3) (scn s ((k+nQ false (s.drop k):Nat):Int) r1 r2 r3,()):=by
 intro k;induction h:s.length-k using hU generalizing k with
 |ind d ih=>
  intro hk;have hb:s.length<4294967281:=hs;refine kR.lp (fun n m=>by simp only[Ql,xW,mB];exact rfl) ?_;by_cases hlt:k<s.length
  ·have e1:decide ((k:Int)<(s.length:Int))=true:=jO (by omega);have e2:decide ((0:Int)<=(k:Int)/\(k:Int)<=(s.length:Int)/\(s.length:Int)<=(s.length:Int))=true:=jO (by omega);simp only[e1,e2,jM,gX,gD,arc hlt,gB];refine kR.lQ (adn _) ?_;cases hw:whB s[k] with
   |true=>
    simp only[jM];rw[kO (by omega),drop_cons hlt,aoi hw]
    grind
   |false=>
    simp only[jN];refine kR.lQ (aiY _ _) ?_;rw[atM];cases hc:(s.drop k).head?==some 45&&(s.drop (k+1)).head?==some 45 with
    |false=>
     simp only[jN]
     have:nQ false (s.drop k)=0:=by
      grind [drop_cons,skip_none]
     rw[this];exact kR.pure
    |true=>
     simp only[jM];simp only[gA,jS] at hc;have hr:=Jp n10 (s.drop k);rw[gF] at hr;have e45:s[k]=45:=by simp_all
     have hp:=aw8 hlt e45;refine kR.lQ (azD _ (by grind)) ?_;rw[aw9,arb hc.1 (by rw[gL];exact hc.2),afi,gL];rw[wrap_small (by omega) (by omega),<-ir];have:=ih (s.length-(k+runT n10 (s.drop k))) (by omega) (k+runT n10 (s.drop k)) rfl (by omega)
     grind
  ·have e1:decide ((k:Int)<(s.length:Int))=false:=jP (by omega);simp only[e1,jN];rw[gy (by omega),aht];exact kR.pure
theorem alE(s:Str)(hs:s.length<X6)(r1 r2 r3:List (Str×Bool))(k:Nat)(hk:k<=s.length):
 Ev (fun n=>uW n s (k:Int) r1 r2 r3) (scn s ((k+nQ false (s.drop k):Nat):Int) r1 r2 r3,()):=by
 refine Ev.fn (fun n=>by simp only[uW,kG,Dk,mC];exact rfl) ?_
 grind [Ev.zH,ard]
def y8(r:Str):Nat->List Str->Nat
 |b,[]=>b
 |b,y::l=>y8 r (bif decide (b<y.length)&&r.take y.length==y then y.length else b) l
theorem BI(r:Str): ∀(l:List Str)(b:Nat),(y8 r b l=b\/(b<y8 r b l/\y8 r b l<=r.length/\r.take (y8 r b l)∈l))/\b<=y8 r b l/\ ∀y∈l,r.take y.length=y->y.length<=y8 r b l
 |[],b=>⟨.inl rfl,gv _,fun y hy=>by cases hy⟩
 |y::l,b=>by
  rw[y8];cases hc:decide (b<y.length)&&r.take y.length==y with
  |true=>
   obtain⟨h1,h2,h3⟩:=BI r l y.length
   grind
  |false=>
   obtain⟨h1,h2,h3⟩:=BI r l b
   grind
theorem alG(r:Str)(l:List Str):y8 r 0 l<=r.length:=by
 grind [BI]
theorem are(s:Str)(hs:s.length<X6)(k:Nat)(hk:k<=s.length)(r1 r2 r3:List (Str×Bool))(l:List Str)
 (h3: ∀y,(mW y r3).getD false=l.contains y) (h8: ∀y∈l,(s.drop k).take y.length=y->y.length<=8):
 Ev (fun n=>yE n s (k:Int) r1 r2 r3) (pk (scn s k r1 r2 r3) (bif y8 (s.drop k) 0 l==0 then(0,(k:Int),4) else(2,((k+y8 (s.drop k) 0 l:Nat):Int),0))):=by
 refine Ev.fn (fun n=>by simp only[yE,kG,Bb,mC];exact rfl) ?_;simp only[X6] at hs;obtain⟨q1,q2,q3⟩:=BI (s.drop k) l 0;generalize hN:y8 (s.drop k) 0 l=N at*
 have key: ∀v:Nat,N<=v->k+v<=s.length->kR (fun n m=>vQ n m (v:Int) s (k:Int) r1 r2 r3) (pk (scn s k r1 r2 r3) (bif N==0 then(0,(k:Int),4) else(2,((k+N:Nat):Int),0))):=by
  intro v;induction v with
  |zero=>
   intro hv hkv;obtain rfl:N=0:=by omega
   refine kR.lp (fun n m=>by simp only[DZ,sR,mB];exact rfl) ?_;exact kR.pure
  |succ v ih=>
   intro hv hkv;refine kR.lp (fun n m=>by simp only[DZ,sR,mB];exact rfl) ?_;have e1:decide ((0:Int)<((v+1:Nat):Int))=true:=jO (by omega);rw[wrap_small (n:=(k:Int)+((v+1:Nat):Int)) (by omega) (by omega),<-ir];have e2:decide ((0:Int)<=(k:Int)/\(k:Int)<=((k+(v+1):Nat):Int)/\((k+(v+1):Nat):Int)<=(s.length:Int))=true:=jO (by omega);simp only[e1,e2,jM,gD,h3];rw[show hJ k (List.take (k+(v+1)) s)=(s.drop k).take (v+1) from by simp_all [List.drop_take]];have hlen:((s.drop k).take (v+1)).length=v+1:=by grind
   cases hc:l.contains ((s.drop k).take (v+1)) with
   |true=>
    simp only[jM];have hm:(s.drop k).take (v+1)∈l:=by simpa using hc
    have:=q3 _ hm (by rw[hlen]);rw[hlen] at this;obtain rfl:N=v+1:=by omega
    exact kR.pure
   |false=>
    grind [wrap_small]
 rw[wrap_small (by omega) (by omega),show(s.length:Int)-(k:Int)=((s.length-k:Nat):Int) from by omega]
 have hN8:N<=8:=by
  grind
 have hNk:N<=s.length-k:=by
  grind
 by_cases h:((s.length-k:Nat):Int)<8
 ·simp only[if_pos h]
  grind [Ev.zH]
 ·simp only[if_neg h]
  grind [Ev.zH]
set_option maxRecDepth 100000
def qb(c:UInt8):Bool:= !(c==34)&& !(c==10)
theorem azE(c:UInt8):qb c=(!(c==34)&& !(c==10)):=rfl
def alH(s:Str):Int:=if runT qb s<s.length then(runT qb s:Int) else-1
theorem afk: ∀s:Str,iy s [34,10]=alH s
 |[]=>rfl
 |x::s=>by
  unfold iy alH;rw[pK,azE,afk s]
  grind [alH]
theorem aiZ{s:Str}{i:Nat}(h:i<s.length):(sb s).get! i=s[i]:=by
 show(s.toArray)[i]! =s[i];simp [h]
theorem aoj{s:Str}{p:Nat}(h:p<s.length)(hb:s[p].toNat<128):gV (sb s) p=(s[p].toNat,1):=by
 grind [gV,aiZ]
theorem LF{s:Str}{i:Nat}(h:(decide (i<(sb s).size)&&((sb s).get! i).toNat / 64==2)=true): ∃hi:i<s.length,128<=s[i].toNat:=by
 grind [Nw,aiZ]
def atO(s:Str)(p w:Nat):Prop:=1<=w/\ ∀j,j<w-> ∃h:p+j<s.length,128<=s[p+j].toNat
theorem decode_high{s:Str}{p:Nat}(h:p<s.length)(hb:128<=s[p].toNat):128<=(gV (sb s) p).1/\atO s p (gV (sb s) p).2:=by
 have h0: ∀j,j<1-> ∃h:p+j<s.length,128<=s[p+j].toNat:=fun j hj=>by
  grind
 have one:atO s p 1:=⟨gv _,h0⟩;unfold gV;simp only[ii,aiZ h];rw[if_neg (by omega)];split
 ·rename_i h1;rw[gA] at h1;have c1:=LF h1.2
  have two:atO s p 2:=⟨by omega,fun j hj=>by
   grind⟩
  split
  ·rename_i h2;exact⟨h2,two⟩
  ·exact⟨by decide,one⟩
 ·split
  ·rename_i _ h1;rw[gA,gA] at h1;have c1:=LF h1.1.2;have c2:=LF h1.2
   have three:atO s p 3:=⟨by omega,fun j hj=>by
    grind⟩
   split
   ·grind
   ·exact⟨by decide,one⟩
  ·split
   ·rename_i _ _ h1;rw[gA,gA,gA] at h1;have c1:=LF h1.1.1.2;have c2:=LF h1.1.2;have c3:=LF h1.2
    have four:atO s p 4:=⟨by omega,fun j hj=>by
     grind⟩
    split
    ·grind
    ·exact⟨by decide,one⟩
   ·exact⟨by decide,one⟩
theorem aok{c:Nat}(h:128<=c): ∃l b,as0 (c:Int)=l++[b]/\128<=b.toNat/\1<=l.length/\l.length<=3:=by
 unfold as0;simp only[Utf8.encode];generalize hd:(if Utf8.valid (c:Int)=true then(c:Int).toNat else Utf8.runeError)=d
 have hd':128<=d:=by
  grind [Utf8.runeError]
 have hb:128<=(UInt8.ofNat (128+d % 64)).toNat:=by
  rw[UInt8.toNat_ofNat'];omega
 rw[if_neg (by omega)];split
 ·exact⟨[_],_,rfl,hb,by simp,by simp⟩
 ·split
  ·exact⟨[_,_],_,rfl,hb,by simp,by simp⟩
  ·exact⟨[_,_,_],_,rfl,hb,by simp,by simp⟩
theorem agu(k:Nat)(x:Int):strings_IndexByte (k+3) [] x=some (-1):=jV
theorem agv(k:Nat):nu (k+8) [34,10] 65533=some (-1):=jV
theorem agw(k:Nat)(c:UInt8):((nu (k+8) [34,10] (c.toNat:Int)).map fun x=>decide (0<=x))=some (!qb c)\/128<=c.toNat:=by
 have:=Sw (p:=fun c=>decide (((nu (k+8) [34,10] (c.toNat:Int)).map fun x=>decide (0<=x))=some (!qb c))||decide (128<=c.toNat)) (jV) c
 grind
theorem ado(c:UInt8)(hc:c.toNat<128):lI (fun n=>nu n [34,10] (c.toNat:Int)) (fun x=>decide (0<=x)= !qb c):=by
 have key: ∀k,((nu (k+8) [34,10] (c.toNat:Int)).map fun x=>decide (0<=x))=some (!qb c):=fun k=>(agw k c).resolve_right (by omega)
 have e: ∀k,nu (k+8) [34,10] (c.toNat:Int)=nu 8 [34,10] (c.toNat:Int):=by
  intro k;have:=Sw (p:=fun c=>decide (nu (k+8) [34,10] (c.toNat:Int)=nu 8 [34,10] (c.toNat:Int))||decide (128<=c.toNat)) (jV) c
  grind
 have k0:=key 0;rw[Option.map_eq_some_iff] at k0;obtain⟨x,hx,hd⟩:=k0;refine⟨x,hd,8,fun n hn=> ?_⟩;obtain⟨k,rfl⟩: ∃k,n=k+8:=⟨n-8,by omega⟩
 grind
theorem afl{c:Nat}(hc:128<=c):Ev (fun n=>nu n [34,10] (c:Int)) (-1):=by
 by_cases h3:c=65533
 ·subst h3;refine⟨8,fun n hn=> ?_⟩;obtain⟨k,rfl⟩: ∃k,n=k+8:=⟨n-8,by omega⟩;exact agv k
 ·refine Ev.fn (fun n=>by simp only[nu,kG,Eo,mB];exact rfl) ?_;have e1:decide ((0:Int)<=(c:Int))=true:=jO (by omega);have e2:decide ((c:Int)<128)=false:=jP (by omega);have e3:((c:Int)==65533)=false:=by rw[jT];omega
  simp only[e1,e2,e3,jM,jN]
  have hv: ∃b,Ev (fun n=>wO n (c:Int)) b:=by
   refine⟨bif decide ((c:Int)<55296) then true else bif decide (57343<(c:Int)) then decide ((c:Int)<=1114111) else false,?_⟩;refine Ev.fn (fun n=>by simp only[wO,kG,ze,mB];exact rfl) ?_
   grind [Ev.pure]
  obtain⟨b,hv⟩:=hv;refine Ev.bind hv ?_;cases b with
  |false=>exact Ev.pure
  |true=>
   simp only[jM];obtain⟨l,b,hl,hb,h1,h4⟩:=aok hc;rw[hl];have hlen:(l++[b]).length=l.length+1:=by simp
   rw[hlen,wrap_small (by omega) (by omega),show((l.length+1:Nat):Int)-1=(l.length:Int) from by omega];refine Ev.zH (F:=fun n m=>yI n m [34,10] (l++[b]) (l.length:Int) (l.length:Int)) ?_;refine kR.lp (fun n m=>by simp only[RG,yH];exact rfl) ?_;by_cases hl1:l.length=1
   ·rw[hl1]
    have nr:wq (l++[b]) ((1:Nat):Int)=some b:=by
     grind [qi]
    have hne:(((10:UInt8).toNat:Int) !=(b.toNat:Int))=true:=by
     grind
    have aDs:wq (l++[b]) (1:Int)=some b:=nr;have i1:wq ([34,10]:Str) ((1:Nat):Int)=some 10:=rfl;have hz:decide (((1:Nat):Int)<(([34,10]:Str).length:Int))=true:=rfl;simp only[hz,jM,i1,nr,gB,hne];have hw:IntKind.i64.wrap (((1:Nat):Int)+1)=((2:Nat):Int):=kO (by omega);have hd2:decide ((0:Int)<=((2:Nat):Int)/\((2:Nat):Int)<=(([34,10]:Str).length:Int)/\(([34,10]:Str).length:Int)<=(([34,10]:Str).length:Int))=true:=rfl;simp only[hw,hd2,jM];have atP:hJ ((2:Nat):Int).toNat (List.take ([34,10]:Str).length [34,10])=[]:=rfl
    have hs:Ev (fun n=>strings_IndexByte n [] (b.toNat:Int)) (-1):=by
     refine⟨3,fun n hn=> ?_⟩;obtain⟨k,rfl⟩: ∃k,n=k+3:=⟨n-3,by omega⟩;exact agu k _
    exact kR.lQ (x:= -1) hs kR.pure
   grind [kR.pure]
theorem Xn{q:UInt8->Bool}: ∀{r:Str}{p:Nat},p<=runT q r-> ∀h:p<r.length,(q r[p]=true->p+1<=runT q r)/\(q r[p]=false->runT q r=p)
 |[],p,_,h=>absurd h (Nat.not_lt_zero _)
 |x::r,0,hp,h=>by
  grind [pK]
 |x::r,p+1,hp,h=>by
  rw[pK] at hp ⊢;cases hx:q x with
  |false=>rw[hx] at hp;simp at hp
  |true=>
   rw[hx] at hp;simp at hp ⊢;have:=Xn (q:=q) (r:=r) (p:=p) (by omega) (by simpa using h)
   grind
theorem axa{c:UInt8}(h:128<=c.toNat):qb c=true:=by
 have:=Sw (p:=fun c=>qb c||decide (c.toNat<128)) (jV) c
 grind
theorem agx(s:Str): ∀p:Nat,p<=runT qb s->kR (fun n m=>wE n m [34,10] s p) (alH s):=by
 intro p;induction h:s.length-p using hU generalizing p with
 |ind d ih=>
  intro hp;have hr:=Jp qb s;refine kR.lp (fun n m=>by simp only[Up,zV,mB];exact rfl) ?_;by_cases hlt:p<s.length
  ·have e:decide (p<s.length)=true:=jO hlt;simp only[e,jM];have st:=Xn hp hlt;rcases Nat.lt_or_ge s[p].toNat 128 with hb|hb
   ·rw[aoj hlt hb];obtain⟨x,hx,Q1⟩:=ado s[p] hb;refine kR.lQ Q1 ?_;rw[hx];cases hq:qb s[p] with
    |true=>
     grind
    |false=>
     grind [alH,kR.pure]
   ·obtain⟨h1,hw,h2⟩:=decode_high hlt hb;refine kR.lQ (afl h1) ?_;have e0:decide ((0:Int)<= -1)=false:=rfl;simp only[e0,jN]
    have run: ∀j,j<=(gV (sb s) p).2->p+j<=runT qb s:=by
     intro j;induction j with
     |zero=>intro _;exact hp
     |succ j ihj=>
      grind [Xn,axa]
    have:=run _ (gv _)
    grind
  grind [alH,kR.pure]
theorem atQ(t:Str)(ht:t.length<X6):Ev (fun n=>(vP n t [34,10]).or (strings_IndexAny n t [34,10])) (alH t):=by
 simp only[X6] at ht;by_cases h8:8<t.length
 ·refine⟨1,fun n hn=> ?_⟩;obtain⟨k,rfl⟩: ∃k,n=k+1:=⟨n-1,by omega⟩
  grind [vP,afk]
 ·have hL: ∀n,vP n t [34,10]=none:=by
   intro n;cases n with
   |zero=>rfl
   |succ k=>
    show(bif decide (2<=([34,10]:Str).length)&&(decide (8<t.length)&&(decide (t.length<4294967281)&&(decide (([34,10]:Str).length<4294967281)&&([34,10]:Str).all (fun b=>decide (b.toNat<128))))) then some (iy t [34,10]) else none)=_;rw[jP h8];rfl
  simp only[hL,Option.none_or];refine Ev.fn (fun n=>by simp only[strings_IndexAny,kG,FB,mB];exact rfl) ?_;have e0:(([34,10]:Str)==[])=false:=rfl;have e1:((([34,10]:Str).length:Int)==1)=false:=rfl;simp only[e0,e1,jN]
  have hs:Ev (fun n=>strings_shouldUseASCIISet n (t.length:Int)) false:=by
   refine Ev.fn (fun n=>by simp only[strings_shouldUseASCIISet,kG,wP,mB];exact rfl) ?_
   grind [Ev.pure]
  refine Ev.bind hs ?_;simp only[jN];exact Ev.zH (F:=fun n m=>wE n m [34,10] t 0) (agx t 0 (gx _))
def MQ(r:Str):Int×Nat×Int:=
 match (r.drop 1).drop (runT qb (r.drop 1)) with
 |d::_=>bif d==34 then(2,runT qb (r.drop 1)+2,0) else(0,0,4)
 |[]=>(0,0,4)
theorem atT{c:UInt8}(h:qb c=false):(c==10)= !(c==34):=by
 grind [qb]
theorem arf(s:Str)(hs:s.length<X6)(k:Nat)(hk:k<s.length)(r1 r2 r3:List (Str×Bool)):
 Ev (fun n=>yM n s (k:Int) r1 r2 r3) (pk (scn s k r1 r2 r3) (alz k (MQ (s.drop k)))):=by
 refine Ev.fn (fun n=>by simp only[yM,kG,Bu,mC];exact rfl) ?_;simp only[X6] at hs;rw[kO (by omega)];have e:decide ((0:Int)<=((k+1:Nat):Int)/\((k+1:Nat):Int)<=(s.length:Int)/\(s.length:Int)<=(s.length:Int))=true:=jO (by omega);simp only[e,jM,gX,gD];refine Ev.bind (atQ _ (by grind)) ?_;unfold MQ alH;rw[show(s.drop k).drop 1=s.drop (k+1) from by rw[gL]];have hr:=Jp qb (s.drop (k+1));rw[gF] at hr;generalize hm:runT qb (s.drop (k+1))=m at*;rw[gL];by_cases h:m<(s.drop (k+1)).length
 ·rw[if_pos h];rw[gF] at h;have hl:k+1+m<s.length:=by omega
  have e1:decide ((m:Int)<0)=false:=jP (by omega);simp only[e1,jN];rw[wrap_small (n:=((k+1:Nat):Int)+(m:Int)) (by omega) (by omega),<-ir,qi hl,gB,drop_cons hl]
  have hq:qb s[k+1+m]=false:=by
   have:=Xn (q:=qb) (r:=s.drop (k+1)) (p:=m) (by omega) (by rw[gF];omega)
   grind
  rw[show((s[k+1+m].toNat:Int)==10)=(s[k+1+m]==10) from Ki _ 10 (by decide),atT hq];cases h34:s[k+1+m]==34 with
  |false=>simp only[h34,gE,jM,jN];exact Ev.pure
  |true=>
   simp only[h34,gK,jM,jN];rw[wrap_small (n:=(k:Int)+(m:Int)) (by omega) (by omega),wrap_small (by omega) (by omega),show(k:Int)+(m:Int)+2=((k+(m+2):Nat):Int) from by omega];exact Ev.pure
 ·rw[if_neg h];rw[gF] at h;rw[gy (show s.length<=k+1+m by omega)];exact Ev.pure
def Ud(c:UInt8):Bool:=apo.contains c
theorem axb(c:UInt8):Ev (fun n=>Rn n (c.toNat:Int)) (Ud c):=by
 refine⟨25,fun n hn=> ?_⟩;obtain⟨k,rfl⟩: ∃k,n=k+25:=⟨n-25,by omega⟩;have:=Sw (p:=fun c=>decide (Rn (k+25) (c.toNat:Int)=some (Ud c))) (jV) c;exact jQ this
theorem agy(c:UInt8):gJ apo [c]=Ud c:=by
 have:=Sw (p:=fun c=>decide (gJ apo [c]=Ud c)) (jV) c;exact jQ this
def dd:Str->Bool
 |[]=>false
 |x::r=>(x==45&&r.head?==some 45)||dd r
theorem acy: ∀s:Str,gJ s [45,45]=dd s
 |[]=>rfl
 |x::r=>by
  have ih:=acy r;unfold gJ at ih ⊢;unfold il dd
  have hp:([45,45]:List UInt8).isPrefixOf (x::r)=(x==45&&r.head?==some 45):=by
   cases r with
   |nil=>simp [List.isPrefixOf]
   |cons y t=>
    grind
  grind
def I8(s:Str):Bool:=
 match s with
 |[]=>false
 |c::t=>bif uX c then(c::t).all Cr&&(!((c::t)==[95])&& !kws.contains (c::t)) else(c::t).all Ud&&(!dd (c::t)&&(decide ((c::t).length<=8)&&(!pL.contains (c::t)||(c::t)==[43])))
theorem afm{p:UInt8->Bool}{s:Str}{k:Nat}(h:k<s.length):(s.drop k).all p=(p s[k]&&(s.drop (k+1)).all p):=by
 rw[drop_cons h,List.all_cons]
theorem WO(p:UInt8->Bool): ∀r:Str,(runT p r==r.length)=r.all p
 |[]=>rfl
 |x::r=>by
  rw[pK,List.all_cons,<-WO p r]
  grind
theorem axc(s:Str):kR (fun n m=>yx n m s pL ((pL.length:Nat):Int) 0) (!pL.contains s||s==[43]):=by
 have key: ∀d k:Nat,k+d=pL.length->kR (fun n m=>yx n m s pL ((pL.length:Nat):Int) (k:Int)) (!(pL.drop k).contains s||s==[43]):=by
  intro d;have hle:pL.length=21:=rfl;induction d with
  |zero=>
   intro k hk;refine kR.lp (fun n m=>by simp only[NY,BX,mB];exact rfl) ?_
   grind [kR.pure]
  |succ d ih=>
   intro k hk;have hlt:k<pL.length:=by omega
   refine kR.lp (fun n m=>by simp only[NY,BX,mB];exact rfl) ?_;have:decide ((k:Int)<((pL.length:Nat):Int))=true:=jO (by omega);simp only[this,jM];refine kR.idx hlt ?_;rw[gr hlt,gH,show(s==pL[k])=(pL[k]==s) from gS.2 ⟨fun h=>by simpa using (jS.1 h).symm,fun h=>by simpa using (jS.1 h).symm⟩];cases pL[k]==s with
   |true=>grind [kR.pure]
   |false=>
    grind [kO]
 exact key pL.length 0 (by omega)
theorem aol(s:Str):kR (fun n m=>yw n m s pL 0) (decide (s.length<=8)&&(!pL.contains s||s==[43])):=by
 have h8:decide ((s.length:Int)<=8)=decide (s.length<=8):=decide_eq_decide.2 (by omega)
 have key: ∀d k:Nat,k+d=pL.length->kR (fun n m=>yw n m s pL (k:Int)) (decide (s.length<=8)&&(!(pL.drop k).contains s||s==[43])):=by
  intro d;have hle:pL.length=21:=rfl;induction d with
  |zero=>
   intro k hk;refine kR.lp (fun n m=>by simp only[NV,BT,mB];exact rfl) ?_
   grind [kR.pure]
  |succ d ih=>
   intro k hk;have hlt:k<pL.length:=by omega
   refine kR.lp (fun n m=>by simp only[NV,BT,mB];exact rfl) ?_;have:decide ((k:Int)<((pL.length:Nat):Int))=true:=jO (by omega);simp only[this,jM];refine kR.idx hlt ?_;rw[gr hlt,gH,show(s==pL[k])=(pL[k]==s) from gS.2 ⟨fun h=>by simpa using (jS.1 h).symm,fun h=>by simpa using (jS.1 h).symm⟩];rw[kO (by omega)];have next:=ih (k+1) (by omega)
   cases pL[k]==s with
   |true=>
    grind [kR.pure]
   |false=>
    grind
 exact key pL.length 0 (by omega)
theorem ahu(s:Str)(hs:s.length<X6):Ev (fun n=>HC n s) (I8 s):=by
 refine Ev.fn (fun n=>by simp only[HC,kG,Mw,mB];exact rfl) ?_;simp only[X6] at hs
 match s with
 |[]=>exact Ev.pure
 |c::t=>
  simp only[show((c::t)==([]:Str))=false from rfl,jN,show wq (c::t) 0=some c from rfl,gB];refine Ev.bind (MP c) ?_;rw[QL,I8];have hs':(c::t).length<4294967281:=hs;generalize hst:c::t=s at*;cases uX c with
  |true=>
   simp only[jM]
   have key: ∀d k:Nat,k+d=s.length->kR (fun n m=>B1 n m s (s.length:Int) (k:Int)) ((s.drop k).all Cr&&(!(s==[95])&& !kws.contains s)):=by
    intro d;induction d with
    |zero=>
     intro k hk;refine kR.lp (fun n m=>by simp only[N2,B0,mB];exact rfl) ?_;have:decide ((k:Int)<(s.length:Int))=false:=jP (by omega);simp only[this,jN];rw[gy (by omega)];simp only[ia,gw];cases s==[95] with
     |true=>exact kR.pure
     |false=>
      simp only[jN,gE,gw];exact kR.lQ (aoh s) kR.pure
    |succ d ih=>
     intro k hk;have hlt:k<s.length:=by omega
     refine kR.lp (fun n m=>by simp only[N2,B0,mB];exact rfl) ?_;have:decide ((k:Int)<(s.length:Int))=true:=jO (by omega);simp only[this,jM];refine kR.idx hlt (kR.lQ (Xm _) ?_);rw[afm hlt];cases Cr s[k] with
     |false=>grind [kR.pure]
     |true=>
      simp only[jM,gw];rw[kO (by omega)];exact ih (k+1) (by omega)
   exact Ev.zH (F:=fun n m=>B1 n m s (s.length:Int) 0) (key s.length 0 (by omega))
  |false=>
   simp only[jN]
   have key: ∀d k:Nat,k+d=s.length->kR (fun n m=>BZ n m s (s.length:Int) (k:Int)) ((s.drop k).all Ud&&(!dd s&&(decide (s.length<=8)&&(!pL.contains s||s==[43])))):=by
    intro d;induction d with
    |zero=>
     intro k hk;refine kR.lp (fun n m=>by simp only[N1,BY,mB];exact rfl) ?_;have:decide ((k:Int)<(s.length:Int))=false:=jP (by omega);simp only[this,jN];rw[gy (by omega)];simp only[ia,gw];refine kR.lQ (acw s [45,45] hs') ?_;rw[acy];cases dd s with
     |true=>grind [kR.pure]
     |false=>
      simp only[jN,gE,gw];by_cases h8:s.length<=8
      ·have e1:decide ((8:Int)<(s.length:Int))=false:=jP (by omega);have e2:decide (s.length<=8)=true:=jO h8;simp only[e1,e2,jN,gw];exact kR.lQ ahr (kR.Xr (Ev.zH (F:=fun n m=>yx n m s pL ((pL.length:Nat):Int) 0) (axc s)))
      grind [kR.pure]
    |succ d ih=>
     intro k hk;have hlt:k<s.length:=by omega
     refine kR.lp (fun n m=>by simp only[N1,BY,mB];exact rfl) ?_;rw[kO (by omega)];have e1:decide ((k:Int)<(s.length:Int))=true:=jO (by omega);have e2:decide ((0:Int)<=(k:Int)/\(k:Int)<=((k+1:Nat):Int)/\((k+1:Nat):Int)<=(s.length:Int))=true:=jO (by omega);simp only[e1,e2,jM,gD];rw[show hJ k (List.take (k+1) s)=[s[k]] from by grind [drop_cons]];refine kR.lQ (acw apo [s[k]] (by simp only[X6];decide)) ?_;rw[agy,afm hlt];cases Ud s[k] with
     |false=>grind [kR.pure]
     |true=>
      grind
   exact Ev.zH (F:=fun n m=>BZ n m s (s.length:Int) 0) (key s.length 0 (by omega))
theorem ai0 (s:Str) (hs:s.length<X6):Ev (fun n=>Lt n s) (I8 s):=by
 refine Ev.fn (fun n=>by simp only[Lt,kG,Mu,mB];exact rfl) ?_;simp only[X6] at hs
 match s with
 |[]=>exact Ev.pure
 |c::t=>
  simp only[show((c::t)==([]:Str))=false from rfl,jN,show wq (c::t) 0=some c from rfl,gB];refine Ev.bind (aiW c) ?_;rw[I8];have hs':(c::t).length<4294967281:=hs;generalize hst:c::t=s at*;cases uX c with
  |true=>
   simp only[jM];have hc:=aiX s (by simp only[big];omega) 0 (gx _);rw[gU,Nat.zero_add] at hc;refine Ev.bind hc ?_
   have e:(((sC s:Nat):Int)==(s.length:Int))=s.all Cr:=by
    grind [WO,sC]
   rw[e];cases s.all Cr with
   |false=>exact Ev.pure
   |true=>
    simp only[jM,gw];cases s==[95] with
    |true=>exact Ev.pure
    |false=>
     simp only[jN,gE,gw];exact Ev.bind (YO s) Ev.pure
  |false=>
   simp only[jN]
   have key: ∀d k:Nat,k+d=s.length->kR (fun n m=>BV n m s (k:Int)) ((s.drop k).all Ud&&(!dd (s.drop (k-1))&&(decide (s.length<=8)&&(!pL.contains s||s==[43])))):=by
    intro d;induction d with
    |zero=>
     intro k hk;refine kR.lp (fun n m=>by simp only[NW,BU,mB];exact rfl) ?_;have:decide ((k:Int)<(s.length:Int))=false:=jP (by omega);simp only[this,jN];rw[gy (show s.length<=k by omega)];simp only[ia,gw]
     have:dd (s.drop (k-1))=false:=by
      match hd:s.drop (k-1) with
      |[]=>rfl
      |[x]=>simp [dd]
      |x::y::r=>
       grind [gN]
     rw[this,gE,gw];exact kR.lQ atI (kR.Xr (Ev.zH (F:=fun n m=>yw n m s pL 0) (aol s)))
    |succ d ih=>
     intro k hk;have hlt:k<s.length:=by omega
     refine kR.lp (fun n m=>by simp only[NW,BU,mB];exact rfl) ?_;rw[kO (by omega)];have e1:decide ((k:Int)<(s.length:Int))=true:=jO (by omega);simp only[e1,jM];refine kR.idx hlt (kR.lQ (axb _) ?_);rw[afm hlt];have next:=ih (k+1) (by omega)
     rw[Nat.add_sub_cancel] at next
     cases Ud s[k] with
     |false=>grind [kR.pure]
     |true=>
      simp only[jM,gw];by_cases h0:0<k
      ·have e2:decide ((0:Int)<(k:Int))=true:=jO (by omega);simp only[e2,jM];have hk1:k-1<s.length:=by omega
       have hkk:k-1+1=k:=by omega
       have hdd:dd (s.drop (k-1))=((s[k-1]==45&&s[k]==45)||dd (s.drop k)):=by
        rw[drop_cons hk1,dd,hkk]
        simp_all
       rw[hdd];refine kR.idx hlt ?_;rw[show((s[k].toNat:Int)==45)=(s[k]==45) from Ki _ 45 (by decide)];cases s[k]==45 with
       |false=>grind
       |true=>
        simp only[jM,Bool.and_true];rw[wrap_small (by omega) (by omega),show(k:Int)-1=((k-1:Nat):Int) from by omega];refine kR.idx hk1 ?_;rw[show((s[k-1].toNat:Int)==45)=(s[k-1]==45) from Ki _ 45 (by decide)];cases s[k-1]==45 with
        |true=>simp_all [kR.pure]
        |false=>grind
      simp_all
   exact Ev.zH (F:=fun n m=>BV n m s 0) (key s.length 0 (by omega))
abbrev cap:Nat:=1048640
def abT(c:UInt8):Bool:=(decide (97<=(c.toNat:Int))&&decide ((c.toNat:Int)<=122))||((decide (65<=(c.toNat:Int))&&decide ((c.toNat:Int)<=90))||((c.toNat:Int)==95))
def FG:Bool->Str->Bool
 |b,[]=> !b
 |b,c::s=>bif abT c then FG false s else bif b then false else bif ((c.toNat:Int)==46) then FG true s else bif ((c.toNat:Int)==39)||(decide (48<=(c.toNat:Int))&&decide ((c.toNat:Int)<=57)) then FG false s else false
def MR(s:Str):Bool:=FG true s&&decide ((s.length:Int)<=64)
def I9(n:jY):Bool:=n.parts.getD 0 []==[]
def rgt(n:jY):Bool:=n.parts.getD (n.parts.length-1) []==[]
def aaZ:List Str->Bool
 |x::y::r=>(x==[]&&y==[])||aaZ (y::r)
 |_=>false
def xN(n:jY):Int:=
 bif decide (n.parts.length=0)||decide (16<n.parts.length) then 6
 else bif aaZ n.parts||n.parts.all (· ==[]) then 3
 else bif n.parts.all (fun s=>s==[]||I8 s) then
  (bif decide (n.level<0)||(decide (100<n.level)||(decide (n.BO<0)||decide (2<n.BO))) then 2
  else bif !(n.BO==0)&& !(I9 n&&rgt n) then 1 else bif MR n.target then 0 else 29)
 else 4
def pS(n:jY):Str:=bif I9 n then n.parts.getD 1 [] else n.parts.getD 0 []
def qm(n:jY):List Str:=bif I9 n then n.parts.drop 2 else n.parts.drop 1
def AP(a b:jY):Bool:=(I9 a&&(qm b).contains (pS a))||(I9 b&&(qm a).contains (pS b))
def IK(t n:jY):Bool:=I9 t==I9 n&&pS t==pS n
def UU(T:List jY)(n:jY):Int:=
 bif xN n==0 then(bif decide (100<=T.length) then 6 else bif AP n n||T.any (fun t=>IK t n||AP t n) then 8 else 0) else xN n
def acz(pre:List jY):List jY->Bool
 |[]=>true
 |n::r=>UU pre n==0&&acz (pre++[n]) r
def abU(T:List jY):Bool:=acz [] T
def y9(T:List jY)(s:Str)(c:Bool):Option jY:=T.find? fun n=>I9 n==c&&pS n==s
structure Ok(n:jY):Prop where
 pos:0<n.parts.length
 few:n.parts.length<=16
 adj:aaZ n.parts=false
 sym:n.parts.all (· ==[])=false
 lo:0<=n.level
 hi:n.level<=100
 alo:0<=n.BO
 ahi:n.BO<=2
theorem Ok.of{n:jY}(h:xN n=0):Ok n:=by
 unfold xN at h;cases h1:decide (n.parts.length=0)||decide (16<n.parts.length) with
 |true=>grind
 |false=>
  rw[h1,jN] at h;cases h2:aaZ n.parts||n.parts.all (· ==[]) with
  |true=>grind
  |false=>
   rw[h2,jN] at h;cases h3:n.parts.all (fun s=>s==[]||I8 s) with
   |false=>grind
   |true=>
    rw[h3,jM] at h;cases h4:decide (n.level<0)||(decide (100<n.level)||(decide (n.BO<0)||decide (2<n.BO))) with
    |true=>grind
    |false=>
     simp only[hO,decide_eq_false_iff_not] at h1 h2 h4;exact⟨by omega,by omega,h2.1,h2.2,by omega,by omega,by omega,by omega⟩
structure ZA(T:List jY):Prop where
 chk: ∀n∈T,xN n=0
 aBI: ∀a∈T,∀b∈T,AP a b=false
 aBJ: ∀a∈T,∀b∈T,IK a b=true->a=b
 len:T.length<=100
theorem aom(a b:jY):AP a b=AP b a:=by unfold AP;rw[iz]
theorem aon{a b:jY}(h:IK a b=true):IK b a=true:=by
 grind [IK]
theorem arh{T:List jY}{n:jY}(h:UU T n=0):xN n=0/\T.length<100/\AP n n=false/\ ∀t∈T,IK t n=false/\AP t n=false:=by
 unfold UU at h
 grind
theorem ZA.nil:ZA []:=⟨by simp,by simp,by simp,by simp⟩
theorem ZA.snoc{T:List jY}{n:jY}(g:ZA T)(h:UU T n=0):ZA (T++[n]):=by
 obtain⟨h1,h2,h3,h4⟩:=arh h;refine⟨fun a ha=> ?_,fun a ha b hb=> ?_,fun a ha b hb e=> ?_,by grind⟩
 ·rcases gI.1 ha with ha|ha
  ·exact g.chk a ha
  grind
 ·rcases gI.1 ha with ha|ha<;>rcases gI.1 hb with hb|hb
  ·exact g.aBI a ha b hb
  all_goals grind [aom]
 ·rcases gI.1 ha with ha|ha<;>rcases gI.1 hb with hb|hb
  ·exact g.aBJ a ha b hb e
  all_goals grind [aon]
theorem ZA.go: ∀{r pre:List jY},ZA pre->acz pre r=true->ZA (pre++r)
 |[],pre,g,_=>by rw[List.append_nil];exact g
 |n::r,pre,g,h=>by
  rw[acz,gA,jS] at h;have:=ZA.go (g.snoc h.1) h.2
  rwa [List.append_assoc] at this
theorem ZA.of{T:List jY}(h:abU T=true):ZA T:=by simpa using ZA.go ZA.nil h
theorem ZA.ok{T:List jY}(g:ZA T){n:jY}(h:n∈T):Ok n:=Ok.of (g.chk n h)
theorem Ja{T:List jY}{s:Str}{n:jY}(h:y9 T s c=some n):n∈T/\I9 n=c/\pS n=s:=by
 have h1:=List.mem_of_find?_eq_some h;have h2:=List.find?_some h
 grind
theorem Xo{T:List jY}(g:ZA T){n:jY}(h:n∈T):y9 T (pS n) (I9 n)=some n:=by
 cases hf:y9 T (pS n) (I9 n) with
 |none=>
  have:=List.find?_eq_none.1 hf n h;simp at this
 |some m=>
  obtain⟨a,b,c⟩:=Ja hf;rw[g.aBJ m a n h (by unfold IK;simp [b,c])]
theorem alI: ∀{l:List Str}{i:Nat},aaZ l=false->i+1<l.length->l.getD i []=[]->l.getD (i+1) []≠[]
 |[],i,_,h,_=>by simp at h
 |[x],i,_,h,_=>by simp at h
 |x::y::r,0,h,_,e=>by
  grind [aaZ]
 |x::y::r,i+1,h,hl,e=>by
  rw[aaZ,hO] at h;have:=alI (l:=y::r) (i:=i) h.2 (by simpa using hl) (by simpa using e);simpa using this
theorem Ok.ahv{n:jY}(k:Ok n)(h:I9 n=true):2<=n.parts.length:=by
 have hp:=k.pos
 match hn:n.parts with
 |[]=>rw[hn] at hp;simp at hp
 |[x]=>
  unfold I9 at h;rw[hn] at h;have:=k.sym
  grind
 |x::y::r=>simp
theorem Ok.head_ne{n:jY}(k:Ok n):pS n≠[]:=by
 unfold pS;cases h:I9 n with
 |true=>
  rw[jM];exact alI k.adj (by have:=k.ahv h;omega) (by grind [I9])
 |false=>grind [I9]
def aoo(n:jY):Bool:=I9 n&&rgt n
def YP(n:jY)(i:Nat):Int:=
 bif decide (0<i)&&decide (i<n.parts.length-1) then 0
 else bif (aoo n&&(decide (i=0)&& !(n.BO==1)))||(aoo n&&(decide (0<i)&& !(n.BO==2))) then n.level+1 else n.level
def aBK(s:Str)(f t:Int):Syntax:= .mk 0 s 0 [] [] [] f t
def azF(o x:Syntax)(f t:Int):Syntax:= .mk 2 [] 0 [] [] [o,x] f t
def afn(o:Syntax)(ops:List Syntax)(f t:Int):Syntax:=ops.foldl (fun o x=>azF o x f t) o
def WP(n:jY)(ops:List Syntax)(f t:Int):Syntax:=afn (aBK n.target f t) ops f t
def adp:List Syntax->Option Str
 |[]=>none
 |x::_=>bif x.kind==17 then some x.text else none
inductive Cmd where
 |parts (n:jY) (ps:List Str) (i:Nat) (ops:List Syntax) (e:Int) (r:List Syntax)
 |first (m:Int) (r:List Syntax)
 |loop (m:Int) (out:Syntax) (has:Int) (r:List Syntax)
 |level (m:Int) (r:List Syntax)
inductive Out where
 |bad (r:List Syntax)
 |val (x:Syntax) (h:Int) (r:List Syntax)
 |ops (l:List Syntax) (e:Int) (r:List Syntax)
def aop(T:List jY)(m has:Int)(r:List Syntax):Option jY:=
 match adp r with
 |none=>none
 |some s=>match y9 T s true with
  |none=>none
  |some n=>bif decide (n.level<m)||decide (has<YP n 0) then none else some n
def aoq(T:List jY)(m:Int)(x:Syntax):Option jY:=
 match y9 T x.text false with
 |none=>none
 |some n=>bif rgt n&&decide (n.level<m) then none else some n
def atU(n:jY):Int:=bif rgt n then n.level else 101
inductive Kk(T:List jY):Cmd->Out->Prop
 |WQ {n i ops e r}:Kk T (.parts n [] i ops e r) (.ops ops e r)
 |ai1 {n ps i ops e r q}:Kk T (.level (YP n i) r) (.bad q)->Kk T (.parts n ([]::ps) i ops e r) (.bad q)
 |hole {n ps i ops e r x h q o}:Kk T (.level (YP n i) r) (.val x h q)->Kk T (.parts n ps (i+1) (ops++[x]) x.to q) o->Kk T (.parts n ([]::ps) i ops e r) o
 |aor {n s ps i ops e r}:s≠[]->adp r≠some s->Kk T (.parts n (s::ps) i ops e r) (.bad r)
 |sym {n s ps i ops e y r o}:s≠[]->y.kind=17->y.text=s->Kk T (.parts n ps (i+1) ops y.to r) o->Kk T (.parts n (s::ps) i ops e (y::r)) o
 |aa0 {m}:Kk T (.first m []) (.bad [])
 |QN {m x r}:x.kind≠17->Kk T (.first m (x::r)) (.val x 101 r)
 |abV {m x r}:x.kind=17->aoq T m x=none->Kk T (.first m (x::r)) (.bad (x::r))
 |afo {m x r n q}:x.kind=17->aoq T m x=some n->Kk T (.parts n n.parts 0 [] 0 (x::r)) (.bad q)->Kk T (.first m (x::r)) (.bad q)
 |first {m x r n l e q}:x.kind=17->aoq T m x=some n->Kk T (.parts n n.parts 0 [] 0 (x::r)) (.ops l e q)->Kk T (.first m (x::r)) (.val (WP n l x.from_ e) (atU n) q)
 |stop {m out has r}:aop T m has r=none->Kk T (.loop m out has r) (.val out has r)
 |atV {m out has r n q}:aop T m has r=some n->Kk T (.parts n (n.parts.drop 1) 1 [out] 0 r) (.bad q)->Kk T (.loop m out has r) (.bad q)
 |go {m out has r n l e q o}:aop T m has r=some n->Kk T (.parts n (n.parts.drop 1) 1 [out] 0 r) (.ops l e q)->Kk T (.loop m (WP n l out.from_ e) n.level q) o->Kk T (.loop m out has r) o
 |aa1 {m r q}:Kk T (.first m r) (.bad q)->Kk T (.level m r) (.bad q)
 |level {m r x h q o}:Kk T (.first m r) (.val x h q)->Kk T (.loop m x h q) o->Kk T (.level m r) o
def Cmd.rest:Cmd->List Syntax
 | .parts _ _ _ _ _ r=>r
 | .first _ r=>r
 | .loop _ _ _ r=>r
 | .level _ r=>r
def Out.rest:Out->List Syntax
 | .bad r=>r
 | .val _ _ r=>r
 | .ops _ _ r=>r
theorem Kk.suff{T:List jY}{c:Cmd}{o:Out}(h:Kk T c o):o.rest<:+c.rest:=by
 induction h with
 |WQ=>exact gP _
 |ai1 _ ih=>exact ih
 |hole _ _ ih1 ih2=>exact ih2.trans ih1
 |aor _ _=>exact gP _
 |sym _ _ _ _ ih=>exact ih.trans (List.suffix_cons _ _)
 |aa0=>exact gP _
 |QN _=>exact List.suffix_cons _ _
 |abV _ _=>exact gP _
 |afo _ _ _ ih=>exact ih
 |first _ _ _ ih=>exact ih
 |stop _=>exact gP _
 |atV _ _ ih=>exact ih
 |go _ _ _ ih1 ih2=>exact ih2.trans ih1
 |aa1 _ ih=>exact ih
 |level _ _ ih1 ih2=>exact ih2.trans ih1
def Cmd.uR:Cmd->Bool
 | .parts .. =>true
 |_=>false
def atW(c:Cmd):Out->Prop
 | .bad _=>True
 | .val .. =>c.uR=false
 | .ops .. =>c.uR=true
theorem Kk.ax7{T:List jY}{c:Cmd}{o:Out}(h:Kk T c o):atW c o:=by
 induction h with
 |hole _ _ _ ih=>exact ih
 |sym _ _ _ _ ih=>exact ih
 |go _ _ _ _ ih=>exact ih
 |level _ _ _ ih=>exact ih
 |_=>first|trivial|rfl
theorem LG{T:List jY}{n:jY}{ps:List Str}{i:Nat}{ops:List Syntax}{e:Int}{r:List Syntax}{o:Out}(h:Kk T (.parts n ps i ops e r) o):(∃q,o= .bad q)\/ ∃l e' q,o= .ops l e' q:=by
 have:=h.ax7
 match o,this with
 | .bad q,_=>exact .inl ⟨q,rfl⟩
 | .val x h q,this=>grind [atW,Cmd.uR]
 | .ops l e' q,_=>exact .inr ⟨l,e',q,rfl⟩
theorem Lx{T:List jY}{c:Cmd}{o:Out}(h:Kk T c o)(hc:c.uR=false):(∃q,o= .bad q)\/ ∃x hh q,o= .val x hh q:=by
 have:=h.ax7
 match o,this with
 | .bad q,_=>exact .inl ⟨q,rfl⟩
 | .val x h q,_=>exact .inr ⟨x,h,q,rfl⟩
 | .ops l e' q,this=>grind [atW]
theorem QO{T:List jY}{m:Int}{x:Syntax}{n:jY}(h:aoq T m x=some n):n∈T/\I9 n=false/\pS n=x.text/\(rgt n=true->m<=n.level):=by
 grind [aoq,Ja]
theorem ahw{r:List Syntax}{s:Str}(h:adp r=some s): ∃y r',r=y::r'/\y.kind=17/\y.text=s:=by
 match r with
 |[]=>simp [adp] at h
 |y::r'=>
  have h:(bif y.kind==17 then some y.text else none)=some s:=h
  grind
theorem apr{y:Syntax}{r:List Syntax}(h:y.kind=17):adp (y::r)=some y.text:=by
 show(bif y.kind==17 then some y.text else none)=some y.text;rw[jS.2 h];rfl
theorem QP{T:List jY}{m has:Int}{r:List Syntax}{n:jY}(h:aop T m has r=some n):n∈T/\I9 n=true/\adp r=some (pS n)/\m<=n.level/\YP n 0<=has:=by
 unfold aop at h
 all_goals grind [Ja]
theorem afp{n:jY}(h:I9 n=true):pS n=n.parts.getD 1 []:=by unfold pS;rw[h];rfl
theorem acA{n:jY}(h:I9 n=false):pS n=n.parts.getD 0 []:=by unfold pS;rw[h];rfl
theorem aos{n:jY}(k:Ok n)(h:I9 n=true):n.parts=[]::pS n::n.parts.drop 2:=by
 have h2:=k.ahv h;rw[afp h];unfold I9 at h
 match hp:n.parts with
 |[]=>rw[hp] at h2;simp at h2
 |[x]=>rw[hp] at h2;simp at h2
 |x::y::r=>grind
theorem alJ{n:jY}(k:Ok n)(h:I9 n=false):n.parts=pS n::n.parts.drop 1:=by
 have h2:=k.pos;rw[acA h]
 match hp:n.parts with
 |[]=>rw[hp] at h2;simp at h2
 |x::r=>rfl
theorem Kk.total{T:List jY}(g:ZA T): ∀(k:Nat)(m:Int)(r:List Syntax),r.length<=k-> ∃o,Kk T (.level m r) o/\(∀x h q,o= .val x h q->q.length<r.length):=by
 intro k;induction k with
 |zero=>
  intro m r hr;have:r=[]:=ik.1 (by omega);subst this;exact⟨_,.aa1 .aa0,fun x h q e=>by cases e⟩
 |succ k ih=>
  intro m r hr
  have parts: ∀(n:jY)(ps:List Str)(i:Nat)(ops:List Syntax)(e:Int)(r:List Syntax),r.length<=k-> ∃o,Kk T (.parts n ps i ops e r) o:=by
   intro n ps;induction ps with
   |nil=>intro i ops e r _;exact⟨_,.WQ⟩
   |cons s ps ihp=>
    intro i ops e r hr;by_cases hs:s=[]
    ·subst hs;obtain⟨o,ho,_⟩:=ih (YP n i) r hr;rcases Lx ho rfl with⟨q,rfl⟩|⟨x,h,q,rfl⟩
     ·exact⟨_,.ai1 ho⟩
     ·obtain⟨o,h2⟩:=ihp (i+1) (ops++[x]) x.to q (Nat.le_trans ho.suff.length_le hr);exact⟨_,.hole ho h2⟩
    ·by_cases hq:adp r=some s
     ·obtain⟨y,r',rfl,h1,h2⟩:=ahw hq;rw[gN] at hr;obtain⟨o,h3⟩:=ihp (i+1) ops y.to r' (by omega);exact⟨_,.sym hs h1 h2 h3⟩
     ·exact⟨_,.aor hs hq⟩
  have atX: ∀(n:jY)(ps:List Str)(i:Nat)(ops:List Syntax)(e:Int)(y:Syntax)(r:List Syntax),r.length<=k->pS n≠[]->y.kind=17->y.text=pS n-> ∃o,Kk T (.parts n (pS n::ps) i ops e (y::r)) o/\o.rest<:+r:=by
   intro n ps i ops e y r hr h0 h1 h2;obtain⟨o,ho⟩:=parts n ps (i+1) ops y.to r hr;exact⟨_,.sym h0 h1 h2 ho,ho.suff⟩
  have loop: ∀(j:Nat)(m:Int)(out:Syntax)(has:Int)(r:List Syntax),r.length<=j->j<=k-> ∃o,Kk T (.loop m out has r) o:=by
   intro j;induction j with
   |zero=>
    intro m out has r hr _;have:r=[]:=ik.1 (by omega);subst this;exact⟨_,.stop rfl⟩
   |succ j ihj=>
    intro m out has r hr hj;cases hg:aop T m has r with
    |none=>exact⟨_,.stop hg⟩
    |some n=>
     obtain⟨hn,hl,hs,_,_⟩:=QP hg;obtain⟨y,r',rfl,h1,h2⟩:=ahw hs;rw[gN] at hr;have kn:=g.ok hn
     have hp:n.parts.drop 1=pS n::n.parts.drop 2:=by
      grind [aos]
     obtain⟨o,ho,hsf⟩:=atX n (n.parts.drop 2) 1 [out] 0 y r' (by omega) kn.head_ne h1 h2;rw[<-hp] at ho;rcases LG ho with⟨q,rfl⟩|⟨l,e,q,rfl⟩
     ·exact⟨_,.atV hg ho⟩
     ·have:=hsf.length_le;obtain⟨o,h3⟩:=ihj m (WP n l out.from_ e) n.level q (by simp [Out.rest] at this;omega) (by omega);exact⟨_,.go hg ho h3⟩
  have first: ∃o,Kk T (.first m r) o/\(∀x h q,o= .val x h q->q.length<r.length):=by
   match r,hr with
   |[],_=>exact⟨_,.aa0,fun x h q e=>by cases e⟩
   |x::r,hr=>
    rw[gN] at hr;by_cases hx:x.kind=17
    ·cases hb:aoq T m x with
     |none=>exact⟨_,.abV hx hb,fun x h q e=>by cases e⟩
     |some n=>
      obtain⟨hn,hl,hh,_⟩:=QO hb;have kn:=g.ok hn;obtain⟨o,ho,hsf⟩:=atX n (n.parts.drop 1) 0 [] 0 x r (by omega) kn.head_ne hx hh.symm;rw[<-alJ kn hl] at ho;rcases LG ho with⟨q,rfl⟩|⟨l,e,q,rfl⟩
      ·exact⟨_,.afo hx hb ho,fun x h q e=>by cases e⟩
      ·refine⟨_,.first hx hb ho,fun x' h' q' e'=> ?_⟩
       grind [Out.rest]
    ·exact⟨_,.QN hx,fun x h q e=>by cases e;simp⟩
  obtain⟨o,ho,hlt⟩:=first
  rcases Lx ho rfl with⟨q,rfl⟩|⟨x,h,q,rfl⟩
  ·exact⟨_,.aa1 ho,fun x h q e=>by cases e⟩
  ·have hq:=hlt x h q rfl;obtain⟨o,h2⟩:=loop k m x h q (by omega) (gv _);refine⟨o,.level ho h2,fun x' h' q' e'=> ?_⟩;have:=h2.suff.length_le
   grind [Out.rest,Cmd.rest]
theorem aa2(f t:Int): ∀(l:List Syntax)(o:Syntax),o.from_=f->o.to=t->(afn o l f t).from_=f/\(afn o l f t).to=t
 |[],_,h1,h2=>⟨h1,h2⟩
 |x::l,o,_,_=>aa2 f t l (azF o x f t) rfl rfl
theorem YQ(n:jY)(l:List Syntax)(f t:Int):(WP n l f t).from_=f/\(WP n l f t).to=t:=aa2 f t l _ rfl rfl
theorem atY{T:List jY}(g:ZA T){n:jY}(hn:n∈T)(hl:I9 n=true):n.parts.drop 1≠[]:=by
 have:=(g.ok hn).ahv hl
 grind [gR]
theorem afq(c:UInt8):Ev (fun n=>NO n (c.toNat:Int)) (abT c)/\Ev (fun n=>Lp n (c.toNat:Int)) (abT c):=by
 unfold abT;constructor
 ·refine Ev.fn (fun n=>by simp only[NO,kG,OM,mB];exact rfl) ?_
  grind [Ev.pure]
 ·refine Ev.fn (fun n=>by simp only[Lp,kG,LZ,mB];exact rfl) ?_
  grind [Ev.pure]
theorem axd(s:Str)(hl:s.length<=cap*4):Ev (fun n=>Xg n s) (MR s):=by
 refine lI.ev ?_;refine lI.fn (fun n=>by simp only[Xg,kG,VP,mB];exact rfl) ?_;refine lI.zH (F:=fun n m=>Hr n m s true s.length 0) ?_;refine lg.up (S:=Bool) (L:=fun n m i b=>Hr n m s b s.length i) s.length (fun i b=>FG true s=FG b (s.drop i)) _ ?_ ?_ 0 true (by omega) rfl
 ·intro i b hi hI next
  refine lg.lp (fun n m=>by simp only[VO,Hq,mB];exact rfl) ?_;simp only[hi,Int.ofNat_lt,decide_true,jM];refine lg.idx hi ?_;rw[gr hi,FG] at hI;rw[kO (by simp only[cap] at hl;omega)];refine lg.lQ ((afq s[i]).1.tot (Q:=(· =abT s[i])) rfl) fun x hx=> ?_
  subst hx;cases h1:abT s[i] with
  |true=>
   grind
  |false=>
   rw[h1,jN] at hI;cases b with
   |true=>exact lg.pure (by grind [MR])
   |false=>
    simp only[jN] at hI ⊢;cases h2:((s[i].toNat:Int)==46) with
    |true=>
     grind
    |false=>
     rw[h2,jN] at hI;simp only[jN];cases h3:((s[i].toNat:Int)==39) with
     |true=>
      grind
     |false=>
      rw[h3,gz] at hI;have e:((s[i].toNat:Int) !=39)=true:=by rw[bne,h3];rfl
      simp only[e,jM];refine lg.p9 (fun h4=>lg.pure ?_) fun h4=>lg.p9 (fun h5=>lg.pure ?_) fun h5=>next _ ?_
      all_goals grind [MR]
 ·intro b hI;refine lg.lp (fun n m=>by simp only[VO,Hq,mB];exact rfl) ?_;simp only[Int.lt_irrefl,decide_false,jN];rw[List.drop_length,FG] at hI;cases b with
  |true=>exact lg.pure (by unfold MR;rw[hI];rfl)
  |false=>exact lg.pure (by unfold MR;rw[hI];simp)
theorem alL(s:Str)(hl:s.length<=cap*4):Ev (fun n=>RB n s) (MR s):=by
 refine lI.ev ?_;refine lI.fn (fun n=>by simp only[RB,kG,RA,mB];exact rfl) ?_;refine lI.p9 (fun h=>lI.pure ?_) fun _=> ?_
 ·have:=jS.1 h;subst this;rfl
 refine lI.p9 (fun h=>lI.pure ?_) fun h64=> ?_
 ·grind [MR]
 have aDF:decide ((s.length:Int)<=64)=true:=jO (by grind);have hT:MR s=FG true s:=by grind [MR]
 rw[hT];refine lI.zH (F:=fun n m=>EL n m s true 0) ?_;refine lg.up (S:=Bool) (L:=fun n m i b=>EL n m s b i) s.length (fun i b=>FG true s=FG b (s.drop i)) _ ?_ ?_ 0 true (by omega) rfl
 ·intro i b hi hI next
  refine lg.lp (fun n m=>by simp only[SO,EK,mB];exact rfl) ?_;simp only[hi,Int.ofNat_lt,decide_true,jM];refine lg.idx hi ?_;rw[gr hi,FG] at hI;rw[kO (by simp only[cap] at hl;omega)];have aBL:=(afq s[i]).2;cases b with
  |true=>
   simp only[jM] at hI ⊢;refine lg.lQ (aBL.tot (Q:=(· =abT s[i])) rfl) fun x hx=> ?_
   subst hx;cases h1:abT s[i] with
   |true=>grind
   |false=>rw[h1,jN] at hI;exact lg.pure hI.symm
  |false=>
   simp only[jN] at hI ⊢;cases h2:((s[i].toNat:Int)==46) with
   |true=>
    grind [abT]
   |false=>
    simp only[jN];refine lg.lQ (aBL.tot (Q:=(· =abT s[i])) rfl) fun x hx=> ?_
    subst hx;cases h1:abT s[i] with
    |true=>grind
    |false=>
     rw[h1,jN,h2,jN] at hI;simp only[jN];cases h3:((s[i].toNat:Int)==39) with
     |true=>
      grind
     |false=>
      rw[h3,gz] at hI;have e:((s[i].toNat:Int) !=39)=true:=by rw[bne,h3];rfl
      simp only[e,jM];refine lg.p9 (fun h4=>lg.pure ?_) fun h4=>lg.p9 (fun h5=>lg.pure ?_) fun h5=>next _ ?_
      all_goals grind
 ·intro b hI;refine lg.lp (fun n m=>by simp only[SO,EK,mB];exact rfl) ?_;simp only[Int.lt_irrefl,decide_false,jN];rw[List.drop_length,FG] at hI;exact lg.pure hI.symm
theorem WR{α:Type}{bk:α->Nat}: ∀{xs:List α}{x:α},x∈xs->bk x+1<=E7 bk xs
 |y::ys,x,h=>by
  rw[E7];rcases List.mem_cons.1 h with e|e
  ·grind [afa]
  ·have:=WR (bk:=bk) e;omega
theorem WS{α:Type}{bk:α->Nat}(h: ∀x,1<=bk x): ∀xs:List α,xs.length+1<=E7 bk xs
 |[]=>afa []
 |x::xs=>by
  have h1:=WS h xs
  grind [E7]
structure Nsm(n:jY):Prop where
 len:n.parts.length<=cap
 each: ∀s∈n.parts,s.length<=cap
 target:n.target.length<=cap
theorem Nsm.of{n:jY}(h:n.vI<=cap):Nsm n:=by
 unfold jY.vI at h;have h1:=WS (bk:=fun m:Str=>m.length+1) (fun _=>Nat.le_add_left _ _) n.parts;refine⟨by omega,fun s hs=> ?_,by omega⟩
 grind [WR]
theorem ai2(i:Nat):decide (0<(i:Int))=decide (0<i):=decide_eq_decide.2 (by omega)
theorem azG(i k:Nat):decide ((i:Int)<(k:Int))=decide (i<k):=decide_eq_decide.2 (by omega)
theorem adC(i:Nat):((i:Int)==0)=decide (i=0):=by grind
theorem Xp{k:Nat}(h:0<k)(h2:k<=cap):IntKind.i64.wrap ((k:Int)-1)=((k-1:Nat):Int):=by
 grind [wrap_small]
theorem getD_at{xs:List Str}{i:Nat}(h:i<xs.length):xs.getD i []=xs[i]:=by
 grind
theorem axe(h:0<xs.length):wq xs 0=some xs[0]:=qi (i:=0) h
theorem aBM(h:1<xs.length):wq xs 1=some xs[1]:=qi (i:=1) h
theorem Fl{n:jY}(h:0<n.parts.length):Ev (fun k=>zh k n) (I9 n)/\Ev (fun k=>A8 k n) (I9 n):=by
 unfold I9;rw[getD_at h];constructor
 ·refine Ev.fn (fun n=>by simp only[zh,kG,Kx,mB];exact rfl) ?_;rw[axe h];exact Ev.pure
 ·refine Ev.fn (fun n=>by simp only[A8,kG,Ro,mB];exact rfl) ?_;rw[axe h];exact Ev.pure
theorem E8{n:jY}(h:0<n.parts.length)(h2:n.parts.length<=cap):Ev (fun k=>Aq k n) (rgt n)/\Ev (fun k=>ND k n) (rgt n):=by
 unfold rgt;rw[getD_at (by omega)];constructor
 ·refine Ev.fn (fun n=>by simp only[Aq,kG,IY,mB];exact rfl) ?_
  grind [Xp,qi,Ev.pure]
 ·refine Ev.fn (fun n=>by simp only[ND,kG,Ox,mB];exact rfl) ?_
  grind [Xp,qi,Ev.pure]
theorem Ok.X6{n:jY}(k:Ok n):n.parts.length<=cap:=by have:=k.few;simp only[cap];omega
theorem Sx{n:jY}(k:Ok n){i:Nat}(hi:i<n.parts.length):Ev (fun f=>EM f n (i:Int)) (YP n i):=by
 refine Ev.fn (fun n=>by simp only[EM,kG,KC,mB];exact rfl) ?_;have hp:=k.pos;refine Ev.bind (Fl hp).1 ?_;unfold YP aoo;have e2:IntKind.i64.wrap ((n.parts.length:Int)-1)=((n.parts.length-1:Nat):Int):=Xp hp k.X6;have e3:IntKind.i64.wrap (n.level+1)=n.level+1:=wrap_small (by have:=k.lo;omega) (by have:=k.hi;omega);simp only[ai2,adC,e2,azG,e3];cases I9 n with
 |false=>
  grind [Ev.pure]
 |true=>
  simp only[jM,gw];refine Ev.bind (E8 hp k.X6).1 ?_
  grind [Ev.pure]
theorem aa3{n:jY}(k:Ok n):Ev (fun f=>IZ f n) (pS n):=by
 refine Ev.fn (fun n=>by simp only[IZ,kG,RC,mB];exact rfl) ?_;refine Ev.bind (Fl k.pos).2 ?_;unfold pS;cases h:I9 n with
 |true=>
  have h2:=k.ahv h
  grind [aBM,Ev.pure]
 |false=>
  simp only[jN];rw[axe k.pos,getD_at k.pos];exact Ev.pure
theorem ahx{n:jY}(k:Ok n)(s:Str):Ev (fun f=>JQ f n s) ((qm n).contains s):=by
 refine Ev.fn (fun n=>by simp only[JQ,kG,OQ,mB];exact rfl) ?_;refine Ev.bind (Fl k.pos).2 ?_
 have key: ∀d i:Nat,i+d=n.parts.length->kR (fun f m=>As f m s (i:Int) n) ((n.parts.drop i).contains s):=by
  intro d;induction d with
  |zero=>
   intro i hi;refine kR.lp (fun n m=>by simp only[PO,CW,mB];exact rfl) ?_
   grind [kR.pure]
  |succ d ih=>
   intro i hi;have hlt:i<n.parts.length:=by omega
   refine kR.lp (fun n m=>by simp only[PO,CW,mB];exact rfl) ?_;have:decide ((i:Int)<(n.parts.length:Int))=true:=jO (by omega);simp only[this,jM];refine kR.idx hlt ?_;rw[gr hlt,gH];rw[show(s==n.parts[i])=(n.parts[i]==s) from gS.2 ⟨fun h=>by simpa using (jS.1 h).symm,fun h=>by simpa using (jS.1 h).symm⟩];cases n.parts[i]==s with
   |true=>exact kR.pure
   |false=>
    simp only[jN,gz];rw[kO (by have:=k.few;omega)];exact ih (i+1) (by omega)
 unfold qm;cases h:I9 n with
 |true=>
  have h2:=k.ahv h;exact Ev.zH (F:=fun f m=>As f m s 2 n) (key (n.parts.length-2) 2 (by omega))
 |false=>
  have h2:=k.pos;exact Ev.zH (F:=fun f m=>As f m s 1 n) (key (n.parts.length-1) 1 (by omega))
theorem alO{a b:jY}(ka:Ok a)(kb:Ok b):Ev (fun f=>AF f a b) (AP a b):=by
 refine Ev.fn (fun n=>by simp only[AF,kG,I0,mB];exact rfl) ?_
 have two:Ev (fun f=>(A8 f b).bind fun x=>bif x then(IZ f b).bind fun x=>(JQ f a x).bind fun x=>some x else some false) (I9 b&&(qm a).contains (pS b)):=by
  refine Ev.bind (Fl kb.pos).2 ?_;cases I9 b with
  |false=>exact Ev.pure
  |true=>exact Ev.bind (aa3 kb) (Ev.bind (ahx ka _) Ev.pure)
 refine Ev.bind (Fl ka.pos).2 ?_;unfold AP;cases I9 a with
 |false=>exact two
 |true=>
  simp only[jM,gw];refine Ev.bind (aa3 ka) (Ev.bind (ahx kb _) ?_);cases (qm b).contains (pS a) with
  |true=>exact Ev.pure
  |false=>exact two
def ahy (n:jY):Int:=bif decide (n.level<0)||(decide (100<n.level)||(decide (n.BO<0)||decide (2<n.BO))) then 2
    else bif !(n.BO==0)&& !(I9 n&&rgt n) then 1 else bif MR n.target then 0 else 29
def ari(n:jY):Int:=bif n.parts.all (fun s=>s==[]||I8 s) then ahy n else 4
theorem aps{n:jY}{lf rt nm:Nat->Option Bool}(h1:Ev lf (I9 n))(h2:Ev rt (rgt n))(h3:Ev nm (MR n.target)):
 Ev (fun f=>bif decide (n.level<0) then some 2 else bif decide (100<n.level) then some 2 else bif decide (n.BO<0) then some 2 else bif decide (2<n.BO) then some 2 else
  bif n.BO !=0 then(lf f).bind fun x=>bif x then(rt f).bind fun x=>bif x then(nm f).bind fun x=>bif x then some 0 else some 29 else some 1 else some 1
  else(nm f).bind fun x=>bif x then some 0 else some 29) (ahy n):=by
 have nme:Ev (fun f=>(nm f).bind fun x=>bif x then some (0:Int) else some 29) (bif MR n.target then 0 else 29):=by
  refine Ev.bind h3 ?_
  grind [Ev.pure]
 unfold ahy;cases decide (n.level<0) with
 |true=>exact Ev.pure
 |false=>
 cases decide (100<n.level) with
 |true=>exact Ev.pure
 |false=>
 cases decide (n.BO<0) with
 |true=>exact Ev.pure
 |false=>
 cases decide (2<n.BO) with
 |true=>exact Ev.pure
 |false=>
 simp [bne];cases n.BO==0 with
 |true=>grind
 |false=>
  refine Ev.bind h1 ?_;cases I9 n with
  |false=>exact Ev.pure
  |true=>
   refine Ev.bind h2 ?_
   grind [Ev.pure]
theorem atZ{s:Str}(h:s.length<=cap):s.length<X6:=by grind
theorem aBN{s:Str}(h:s.length<=cap):s.length<=cap*4:=by omega
theorem abW{p:α->Bool}{s:List α}{k:Nat}(h:k<s.length):(s.drop k).all p=(p s[k]&&(s.drop (k+1)).all p):=by
 grind [gr]
theorem azH{n:jY}(h:Nsm n)(hp:0<n.parts.length):kR (fun f m=>wg f m n.parts (n.parts.length:Int) 0 n) (ari n):=by
 have hl:=h.len;simp only[cap] at hl
 have key: ∀d i:Nat,i+d=n.parts.length->kR (fun f m=>wg f m n.parts (n.parts.length:Int) (i:Int) n) (bif (n.parts.drop i).all (fun s=>s==[]||I8 s) then ahy n else 4):=by
  intro d;induction d with
  |zero=>
   intro i hi;refine kR.lp (fun n m=>by simp only[K9,yP,mB];exact rfl) ?_;have:decide ((i:Int)<(n.parts.length:Int))=false:=jP (by omega);simp only[this,jN,gy (show n.parts.length<=i by omega),ia,jM];exact kR.Xr (aps (Fl hp).1 (E8 hp h.len).1 (axd _ (aBN h.target)))
  |succ d ih=>
   intro i hi;have hlt:i<n.parts.length:=by omega
   refine kR.lp (fun n m=>by simp only[K9,yP,mB];exact rfl) ?_;have:decide ((i:Int)<(n.parts.length:Int))=true:=jO (by omega);simp only[this,jM];refine kR.idx hlt ?_;rw[abW hlt];have next:=ih (i+1) (by omega)
   rw[<-kO (by omega)] at next
   cases n.parts[i]==[] with
   |true=>grind
   |false=>
    simp only[jN,gz];refine kR.lQ (ahu _ (atZ (h.each _ (gC hlt)))) ?_
    grind [kR.pure]
 exact key n.parts.length 0 (by omega)
theorem axf{n:jY}(h:Nsm n)(hp:0<n.parts.length):kR (fun f m=>AH f m 0 n) (ari n):=by
 have hl:=h.len;simp only[cap] at hl
 have key: ∀d i:Nat,i+d=n.parts.length->kR (fun f m=>AH f m (i:Int) n) (bif (n.parts.drop i).all (fun s=>s==[]||I8 s) then ahy n else 4):=by
  intro d;induction d with
  |zero=>
   intro i hi;refine kR.lp (fun n m=>by simp only[Qn,Dn,mB];exact rfl) ?_;have:decide ((i:Int)<(n.parts.length:Int))=false:=jP (by omega);simp only[this,jN,gy (show n.parts.length<=i by omega),ia,jM];exact kR.Xr (aps (Fl hp).2 (E8 hp h.len).2 (alL _ (aBN h.target)))
  |succ d ih=>
   intro i hi;have hlt:i<n.parts.length:=by omega
   refine kR.lp (fun n m=>by simp only[Qn,Dn,mB];exact rfl) ?_;have:decide ((i:Int)<(n.parts.length:Int))=true:=jO (by omega);simp only[this,jM];refine kR.idx hlt ?_;rw[abW hlt];have next:=ih (i+1) (by omega)
   rw[<-kO (by omega)] at next
   cases n.parts[i]==[] with
   |true=>grind
   |false=>
    simp only[jN,gz];refine kR.idx hlt ?_;refine kR.lQ (ai0 _ (atZ (h.each _ (gC hlt)))) ?_
    grind [kR.pure]
 exact key n.parts.length 0 (by omega)
theorem alQ{l:List Str}{i:Nat}(h:0<i)(hi:i<l.length):aaZ (l.drop (i-1))=((l[i-1]==[]&&l[i]==[])||aaZ (l.drop i)):=by
 grind [gr,aaZ]
theorem apt(l:List Str)(i:Nat)(h:l.length<=i):aaZ (l.drop (i-1))=false:=by
 match hd:l.drop (i-1) with
 |[]=>rfl
 |[x]=>rfl
 |x::y::r=>
  grind [gN]
def Od(n:jY)(b:Bool)(i:Nat):Int:=bif aaZ (n.parts.drop (i-1))||(!b&&(n.parts.drop i).all (· ==[])) then 3 else ari n
theorem Jb{n:jY}{b:Bool}{i:Nat}(hi:i<n.parts.length)(h:i=0\/(n.parts[i-1]==[]&&n.parts[i]==[])=false):
 Od n b i=Od n (b|| !(n.parts[i]==[])) (i+1):=by
 unfold Od;rw[abW hi]
 have:aaZ (n.parts.drop (i-1))=aaZ (n.parts.drop i):=by
  grind [alQ]
 grind
theorem ahz{n:jY}{b:Bool}{i:Nat}(h0:0<i)(hi:i<n.parts.length)(h1:(n.parts[i-1]==[])=true)(h2:(n.parts[i]==[])=true):Od n b i=3:=by
 grind [Od,alQ]
theorem ahA{i:Nat}(h0:0<i)(h:i<=cap):IntKind.i64.wrap ((i:Int)-1)=((i-1:Nat):Int):=Xp h0 h
theorem acB{n:jY}(h1:0<n.parts.length)(h2:n.parts.length<=16):xN n=Od n false 0:=by
 grind [xN,Od,ari,ahy]
theorem at0{n:jY}(h:Nsm n):Ev (fun f=>HJ f n) (xN n):=by
 refine Ev.fn (fun n=>by simp only[HJ,kG,I3,mB];exact rfl) ?_;have hl:=h.len;rw[adC,show decide ((16:Int)<(n.parts.length:Int))=decide (16<n.parts.length) from decide_eq_decide.2 (by omega)];by_cases h0:n.parts.length=0
 ·grind [xN,Ev.pure]
 by_cases h16:16<n.parts.length
 ·grind [xN,Ev.pure]
 have hp:0<n.parts.length:=by omega
 rw[jP h0,jP h16,acB hp (by omega)];simp only[jN]
 have key: ∀d i c:Nat,i+d=n.parts.length->c<=i->kR (fun f m=>yR f m (c:Int) n.parts (n.parts.length:Int) (i:Int) n) (Od n (!decide (c=0)) i):=by
  intro d;induction d with
  |zero=>
   intro i c hi hc;refine kR.lp (fun n m=>by simp only[La,yQ,mB];exact rfl) ?_;have:decide ((i:Int)<(n.parts.length:Int))=false:=jP (by omega);simp only[this,jN,adC]
   have e:Od n (!decide (c=0)) i=bif decide (c=0) then 3 else ari n:=by
    grind [Od,apt]
   rw[e];cases decide (c=0) with
   |true=>exact kR.pure
   |false=>exact kR.Xr (Ev.zH (F:=fun f m=>wg f m n.parts (n.parts.length:Int) 0 n) (azH h hp))
  |succ d ih=>
   intro i c hi hc;have hlt:i<n.parts.length:=by omega
   refine kR.lp (fun n m=>by simp only[La,yQ,mB];exact rfl) ?_;have:decide ((i:Int)<(n.parts.length:Int))=true:=jO (by omega);simp only[this,jM];refine kR.idx hlt ?_;cases hx:n.parts[i]==[] with
   |true=>
    simp only[jM,ai2];by_cases h0:0<i
    ·rw[jO h0];simp only[jM];rw[ahA h0 (by omega)];refine kR.idx (show i-1<n.parts.length by omega) ?_;cases hy:n.parts[i-1]==[] with
     |true=>grind [ahz,kR.pure]
     |false=>
      simp only[jN];rw[Jb hlt (.inr (by rw[hy];rfl)),hx,gK,gQ,kO (by simp only[cap] at hl;omega)];exact ih (i+1) c (by omega) (by omega)
    ·rw[jP h0];simp only[jN];rw[Jb hlt (.inl (by omega)),hx,gK,gQ,kO (by simp only[cap] at hl;omega)];exact ih (i+1) c (by omega) (by omega)
   |false=>
    simp only[jN];rw[Jb hlt (.inr (by rw[hx,Bool.and_false])),hx,gE,Bool.or_true,kO (by simp only[cap] at hl;omega),kO (by simp only[cap] at hl;omega)];have:=ih (i+1) (c+1) (by omega) (by omega)
    grind
 exact Ev.zH (F:=fun f m=>yR f m 0 n.parts (n.parts.length:Int) 0 n) (key n.parts.length 0 0 (by omega) (gv _))
theorem arj{n:jY}(h:Nsm n):Ev (fun f=>NX f n) (xN n):=by
 refine Ev.fn (fun n=>by simp only[NX,kG,O5,mB];exact rfl) ?_;have hl:=h.len;rw[adC,show decide ((16:Int)<(n.parts.length:Int))=decide (16<n.parts.length) from decide_eq_decide.2 (by omega)];by_cases h0:n.parts.length=0
 ·grind [xN,Ev.pure]
 by_cases h16:16<n.parts.length
 ·grind [xN,Ev.pure]
 have hp:0<n.parts.length:=by omega
 rw[jP h0,jP h16,acB hp (by omega)];simp only[jN]
 have key: ∀d i:Nat,∀b:Bool,i+d=n.parts.length->kR (fun f m=>vB f m b (i:Int) n) (Od n b i):=by
  intro d;induction d with
  |zero=>
   intro i b hi;refine kR.lp (fun n m=>by simp only[Qo,Do,mB];exact rfl) ?_;have:decide ((i:Int)<(n.parts.length:Int))=false:=jP (by omega);simp only[this,jN]
   have e:Od n b i=bif b then ari n else 3:=by
    grind [Od,apt]
   rw[e];cases b with
   |false=>exact kR.pure
   |true=>exact kR.Xr (Ev.zH (F:=fun f m=>AH f m 0 n) (axf h hp))
  |succ d ih=>
   intro i b hi;have hlt:i<n.parts.length:=by omega
   refine kR.lp (fun n m=>by simp only[Qo,Do,mB];exact rfl) ?_;have:decide ((i:Int)<(n.parts.length:Int))=true:=jO (by omega);simp only[this,jM,ai2]
   have rest: ∀b':Bool,b'=(b|| !(n.parts[i]==[]))->kR (fun f m=>bif decide (0<i) then(wq n.parts (i:Int)).bind fun x=>bif x==[] then(wq n.parts (IntKind.i64.wrap ((i:Int)-1))).bind fun x=>bif x==[] then some 3 else vB f m b' (IntKind.i64.wrap ((i:Int)+1)) n else vB f m b' (IntKind.i64.wrap ((i:Int)+1)) n else vB f m b' (IntKind.i64.wrap ((i:Int)+1)) n) (Od n b i):=by
    intro b' hb';have next:=ih (i+1) b' (by omega)
    rw[<-kO (by simp only[cap] at hl;omega)] at next
    by_cases h0:0<i
    ·rw[jO h0];simp only[jM];refine kR.idx hlt ?_;cases hx:n.parts[i]==[] with
     |true=>
      simp only[jM];rw[ahA h0 (by omega)];refine kR.idx (show i-1<n.parts.length by omega) ?_
      grind [ahz,kR.pure,Jb]
     |false=>grind [Jb]
    grind [Jb]
   cases b with
   |true=>grind
   |false=>
    simp only[jN];refine kR.idx hlt ?_
    grind
 exact Ev.zH (F:=fun f m=>vB f m false 0 n) (key n.parts.length 0 false (by omega))
theorem Jc{α:Type}(x s:Str)(v:α): ∀es:List (Str×α),mW x (yA s v es)=bif x==s then some v else mW x es
 |[]=>by
  simp [yA,mW]
 |(k,u)::es=>by
  have ih:=Jc x s v es
  grind [yA,mW]
structure Idx(T:List jY)(sz:Int)(B C:List (Str×jY))(I:List (Str×Bool)):Prop where
 sz:sz=(T.length:Int)
 b: ∀s,mW s B=y9 T s false
 c: ∀s,mW s C=y9 T s true
 i: ∀s,s≠[]->(mW s I).getD false=T.any (fun t=>(qm t).contains s)
theorem Idx.nil:Idx [] 0 [] [] []:=⟨rfl,fun _=>rfl,fun _=>rfl,fun _ _=>rfl⟩
def ai3(l:List Str)(I:List (Str×Bool)):List (Str×Bool):=l.foldl (fun I s=>bif s==[] then I else yA s true I) I
theorem abX: ∀(l:List Str)(I:List (Str×Bool))(s:Str),s≠[]->(mW s (ai3 l I)).getD false=(l.contains s||(mW s I).getD false)
 |[],I,s,_=>rfl
 |x::l,I,s,hs=>by
  have ih:=abX l (bif x==[] then I else yA x true I) s hs
  grind [ai3,Jc]
theorem Sy(T:List jY)(n:jY)(s:Str)(c:Bool):y9 (T++[n]) s c=(y9 T s c).or (bif I9 n==c&&pS n==s then some n else none):=by
 grind [y9]
theorem alR(rest:List Str)(hl:rest.length<=cap)(sz:Int)(B C:List (Str×jY)): ∀(d i:Nat)(I:List (Str×Bool)),i+d=rest.length->
 kR (fun f m=>rZ f m rest (rest.length:Int) (i:Int) sz B C I) (((IntKind.i64.wrap (sz+1),()),B,C,ai3 (rest.drop i) I,()),0,()):=by
 simp only[cap] at hl;intro d;induction d with
 |zero=>
  intro i I hi;refine kR.lp (fun n m=>by simp only[Gf,uI,Cv];exact rfl) ?_;have:decide ((i:Int)<(rest.length:Int))=false:=jP (by omega);simp only[this,jN,gy (show rest.length<=i by omega)];exact kR.pure
 |succ d ih=>
  intro i I hi;have hlt:i<rest.length:=by omega
  refine kR.lp (fun n m=>by simp only[Gf,uI,Cv];exact rfl) ?_;have:decide ((i:Int)<(rest.length:Int))=true:=jO (by omega);simp only[this,jM];refine kR.idx hlt ?_;rw[kO (by omega),gr hlt];cases hx:rest[i]==[] with
  |true=>
   simp only[jM];have:=ih (i+1) I (by omega)
   grind [ai3]
  |false=>
   simp only[jN];have:=ih (i+1) (yA rest[i] true I) (by omega)
   grind [ai3]
abbrev aDd:=((Int×Unit)×((List (Str×jY))×((List (Str×jY))×((List (Str×Bool))×Unit))))×(Int×Unit)
theorem at1(rest:List Str)(hl:rest.length<=cap)(hd:Str)(sz:Int)(B C:List (Str×jY))(I:List (Str×Bool))(n:jY)(h0:mW [] C=none): ∀(d i:Nat),i+d=rest.length->
 kR (fun f m=>uK f m hd rest rest (rest.length:Int) (i:Int) sz B C I n) (bif (rest.drop i).any (fun s=>(mW s C).isSome) then(((sz,()),B,C,I,()),8,()) else(((IntKind.i64.wrap (sz+1),()),B,yA hd n C,ai3 rest I,()),0,())):=by
 have QT:=hl;simp only[cap] at hl;intro d;induction d with
 |zero=>
  intro i hi;refine kR.lp (fun n m=>by simp only[Gg,uJ,Cv];exact rfl) ?_;have:decide ((i:Int)<(rest.length:Int))=false:=jP (by omega);simp only[this,jN,gy (show rest.length<=i by omega),ij];have:=alR rest QT sz B (yA hd n C) rest.length 0 I (by omega);exact kR.Xr (Ev.zH (F:=fun f m=>rZ f m rest (rest.length:Int) 0 sz B (yA hd n C) I) this)
 |succ d ih=>
  intro i hi;have hlt:i<rest.length:=by omega
  refine kR.lp (fun n m=>by simp only[Gg,uJ,Cv];exact rfl) ?_;have:decide ((i:Int)<(rest.length:Int))=true:=jO (by omega);simp only[this,jM];refine kR.idx hlt ?_;rw[kO (by omega),gr hlt,gW];have next:=ih (i+1) (by omega)
  cases hf:mW rest[i] C with
  |none=>grind [oel]
  |some x=>
   grind [oel,kR.pure]
theorem at2(rest:List Str)(hl:rest.length<=cap)(hd:Str)(sz:Int)(B C:List (Str×jY))(I:List (Str×Bool))(n:jY)(h0:mW [] C=none): ∀(d i:Nat),i+d=rest.length->
 kR (fun f m=>uM f m hd rest rest (rest.length:Int) (i:Int) sz B C I n) (bif (rest.drop i).any (fun s=>(mW s C).isSome) then(((sz,()),B,C,I,()),8,()) else(((IntKind.i64.wrap (sz+1),()),yA hd n B,C,ai3 rest I,()),0,())):=by
 have QT:=hl;simp only[cap] at hl;intro d;induction d with
 |zero=>
  intro i hi;refine kR.lp (fun n m=>by simp only[Gh,uL,Cv];exact rfl) ?_;have:decide ((i:Int)<(rest.length:Int))=false:=jP (by omega);simp only[this,jN,gy (show rest.length<=i by omega),ij];have:=alR rest QT sz (yA hd n B) C rest.length 0 I (by omega);exact kR.Xr (Ev.zH (F:=fun f m=>rZ f m rest (rest.length:Int) 0 sz (yA hd n B) C I) this)
 |succ d ih=>
  intro i hi;have hlt:i<rest.length:=by omega
  refine kR.lp (fun n m=>by simp only[Gh,uL,Cv];exact rfl) ?_;have:decide ((i:Int)<(rest.length:Int))=true:=jO (by omega);simp only[this,jM];refine kR.idx hlt ?_;rw[kO (by omega),gr hlt,gW];have next:=ih (i+1) (by omega)
  cases hf:mW rest[i] C with
  |none=>grind [oel]
  |some x=>
   grind [oel,kR.pure]
theorem acC(xs:List Str)(s:Str)(hl:xs.length<=cap):Ev (fun n=>mR n xs s) (xs.contains s):=by
 simp only[cap] at hl;refine Ev.fn (fun n=>by simp only[mR,kG,zm,mB];exact rfl) ?_
 have key: ∀d i:Nat,i+d=xs.length->kR (fun f m=>wS f m xs s (xs.length:Int) (i:Int)) (bif (xs.drop i).contains s then((i+(xs.drop i).idxOf s:Nat):Int) else-1):=by
  intro d;induction d with
  |zero=>
   intro i hi;refine kR.lp (fun n m=>by simp only[EH,tQ,mB];exact rfl) ?_
   grind [kR.pure]
  |succ d ih=>
   intro i hi;have hlt:i<xs.length:=by omega
   refine kR.lp (fun n m=>by simp only[EH,tQ,mB];exact rfl) ?_;have:decide ((i:Int)<(xs.length:Int))=true:=jO (by omega);simp only[this,jM];refine kR.idx hlt ?_;rw[kO (by omega),gr hlt,gH,List.idxOf_cons];cases hx:s==xs[i] with
   |true=>
    grind [kR.pure]
   |false=>
    have hx':(xs[i]==s)=false:=by grind
    simp only[jN,gz,hx']
    grind
 have h1:=key xs.length 0 (by omega);rw[gU] at h1
 have h2:Ev (fun n=>zQ n xs s) (bif xs.contains s then((0+xs.idxOf s:Nat):Int) else-1):=by
  refine Ev.fn (fun n=>by simp only[zQ,kG,Cf,mB];exact rfl) ?_
  grind [Ev.zH]
 refine Ev.bind h2 ?_;cases xs.contains s with
 |true=>simp_all [Ev.pure]
 |false=>exact Ev.pure
theorem alS{T:List jY}{n:jY}:T.any (fun t=>IK t n||AP t n)=(T.any (fun t=>IK t n)||(T.any (fun t=>I9 t&&(qm n).contains (pS t))||T.any (fun t=>I9 n&&(qm t).contains (pS n)))):=by
 induction T with
 |nil=>rfl
 |cons t T ih=>
  grind [AP]
theorem alU{T:List jY}{n:jY}:T.any (fun t=>IK t n)=(y9 T (pS n) (I9 n)).isSome:=by
 grind [y9,IK]
theorem alV{T:List jY}{n:jY}(hc: ∀s,mW s C=y9 T s true):(qm n).any (fun s=>(mW s C).isSome)=T.any (fun t=>I9 t&&(qm n).contains (pS t)):=by
 grind [y9]
theorem ahB{n:jY}:qm n=bif I9 n then(n.parts.take n.parts.length).drop 2 else(n.parts.take n.parts.length).drop 1:=by
 grind [qm]
theorem Idx.aBO{T:List jY}{sz:Int}{B:List (Str×jY)}{n:jY}(X:Idx T sz B C I)(hT:T.length<=100)(hl:I9 n=true)(hf:y9 T (pS n) true=none):
 Idx (T++[n]) (IntKind.i64.wrap (sz+1)) B (yA (pS n) n C) (ai3 (qm n) I):=by
 refine⟨?_,fun s=> ?_,fun s=> ?_,fun s hs=> ?_⟩
 ·rw[X.sz,kO (by omega),gO,gZ]
 ·rw[X.b,Sy,hl];cases y9 T s false<;>rfl
 ·rw[Jc,X.c,Sy]
  grind
 ·rw[abX _ _ _ hs,X.i s hs,List.any_append,gW,ij,gQ,iz]
theorem Idx.aBP{T:List jY}{sz:Int}{B:List (Str×jY)}{n:jY}(X:Idx T sz B C I)(hT:T.length<=100)(hl:I9 n=false)(hf:y9 T (pS n) false=none):
 Idx (T++[n]) (IntKind.i64.wrap (sz+1)) (yA (pS n) n B) C (ai3 (qm n) I):=by
 refine⟨?_,fun s=> ?_,fun s=> ?_,fun s hs=> ?_⟩
 ·rw[X.sz,kO (by omega),gO,gZ]
 ·rw[Jc,X.b,Sy]
  grind
 ·rw[X.c,Sy,hl];cases y9 T s true<;>rfl
 ·rw[abX _ _ _ hs,X.i s hs,List.any_append,gW,ij,gQ,iz]
theorem axg{T:List jY}{sz:Int}{B:List (Str×jY)}{n:jY}(g:ZA T)(X:Idx T sz B C I)(h:Nsm n):
 lI (fun f=>BB f n sz B C I) (fun r=>r.2.1=UU T n/\(UU T n=0->Idx (T++[n]) r.1.1.1 r.1.2.1 r.1.2.2.1 r.1.2.2.2.1)):=by
 refine lI.fn (fun n=>by simp only[BB,kG,Dw,yD];exact rfl) ?_;refine lI.bind ((at0 h).tot (Q:=(· =xN n)) rfl) fun x hx=> ?_
 subst hx;cases hc:xN n==0 with
 |false=>
  simp only[bne,hc,gE,jM];have e:UU T n=xN n:=by unfold UU;rw[hc];rfl
  refine lI.pure ⟨e.symm,fun h0=> ?_⟩
  grind
 |true=>
 simp only[bne,hc,gK,jN];have k:Ok n:=Ok.of (jS.1 hc);rw[show decide ((100:Int)<=sz)=decide (100<=T.length) from by rw[X.sz];exact decide_eq_decide.2 (by omega)];have hT:=g.len;cases azI:decide (100<=T.length) with
 |true=>
  simp only[jM];have e:UU T n=6:=by unfold UU;rw[hc,azI];rfl
  exact lI.pure ⟨e.symm,fun h0=>by rw[e] at h0;cases h0⟩
 |false=>
 simp only[jN];have ea:UU T n=bif AP n n||T.any (fun t=>IK t n||AP t n) then 8 else 0:=by unfold UU;rw[hc,azI];rfl
 have bad:(AP n n||T.any (fun t=>IK t n||AP t n))=true->lI (fun _:Nat=>some ((((sz,()),B,C,I,()),8,()):aDd)) (fun r=>r.2.1=UU T n/\(UU T n=0->Idx (T++[n]) r.1.1.1 r.1.2.1 r.1.2.2.1 r.1.2.2.2.1)):=fun hb=>
  lI.pure ⟨by rw[ea,hb];rfl,fun h0=>by rw[ea,hb] at h0;cases h0⟩
 have h0:mW [] C=none:=by
  rw[X.c];cases hf:y9 T [] true with
  |none=>rfl
  |some m=>
   obtain⟨a,_,c⟩:=Ja hf;exact absurd c (g.ok a).head_ne
 have hin:(qm n).length<=cap:=by
  have:=k.X6
  grind [qm]
 refine lI.bind (P:=fun r=>r=bif I9 n then(PR.ok (((sz,()),B,C,I,()),pS n,qm n,())) else(PR.pn (((sz,()),B,C,I,()),pS n,qm n,()))) ?_ fun x hx=> ?_
 ·refine lI.fn (fun n=>by simp only[C9,kG,Bk,mC];exact rfl) ?_;refine lI.bind ((Fl k.pos).1.tot (Q:=(· =I9 n)) rfl) fun x hx=> ?_
  subst hx;cases hl:I9 n with
  |true=>
   have h2:=k.ahv hl;simp only[jM];rw[aBM (by omega),jO (show(2:Int)<=(n.parts.length:Int)/\(n.parts.length:Int)<=(n.parts.length:Int) by omega)];refine lI.pure ?_
   grind [afp,ahB]
  |false=>
   have h2:=k.pos;simp only[jN];rw[axe h2,jO (show(1:Int)<=(n.parts.length:Int)/\(n.parts.length:Int)<=(n.parts.length:Int) by omega)];refine lI.pure ?_
   grind [acA,ahB]
 ·subst hx;cases hl:I9 n with
  |true=>
   simp only[jM,CJ]
   have eC:(AP n n||T.any (fun t=>IK t n||AP t n))=((y9 T (pS n) true).isSome||((qm n).contains (pS n)||(T.any (fun t=>(qm t).contains (pS n))||(qm n).any (fun s=>(mW s C).isSome)))):=by
    rw[alS,alU,alV X.c,hl]
    grind [AP]
   rw[eC] at ea bad;rw[X.c];cases hf:y9 T (pS n) true with
   |some m=>rw[hf] at bad;exact bad rfl
   |none=>
    simp only[oel];refine lI.bind ((Fl k.pos).1.tot (Q:=(· =I9 n)) rfl) fun x hx=> ?_
    subst hx;rw[hl];simp only[jM];rw[X.i _ k.head_ne];cases hi:T.any (fun t=>(qm t).contains (pS n)) with
    |true=>
     grind
    |false=>
     simp only[jN];refine lI.bind ((acC _ _ hin).tot (Q:=(· =(qm n).contains (pS n))) rfl) fun x hx=> ?_
     subst hx;cases hcn:(qm n).contains (pS n) with
     |true=>
      grind
     |false=>
      simp only[jN];have:=at1 (qm n) hin (pS n) sz B C I n h0 (qm n).length 0 (by omega);rw[gU] at this;refine(Ev.zH (F:=fun f m=>uK f m (pS n) (qm n) (qm n) ((qm n).length:Int) 0 sz B C I n) this).tot ?_;rw[hf,hcn,hi] at ea;simp only[iA,gz] at ea;cases hr:(qm n).any (fun s=>(mW s C).isSome) with
      |true=>
       grind
      |false=>
       rw[hr] at ea;exact⟨ea.symm,fun _=>X.aBO hT hl hf⟩
  |false=>
   simp only[jN,CJ]
   have eC:(AP n n||T.any (fun t=>IK t n||AP t n))=((y9 T (pS n) false).isSome||(qm n).any (fun s=>(mW s C).isSome)):=by
    rw[alS,alU,alV X.c,hl]
    grind [AP]
   rw[eC] at ea bad;rw[X.b];cases hf:y9 T (pS n) false with
   |some m=>rw[hf] at bad;exact bad rfl
   |none=>
    simp only[oel];refine lI.bind ((Fl k.pos).1.tot (Q:=(· =I9 n)) rfl) fun x hx=> ?_
    subst hx;rw[hl];simp only[jN];have:=at2 (qm n) hin (pS n) sz B C I n h0 (qm n).length 0 (by omega);rw[gU] at this;refine(Ev.zH (F:=fun f m=>uM f m (pS n) (qm n) (qm n) ((qm n).length:Int) 0 sz B C I n) this).tot ?_;rw[hf] at ea;simp only[iA,gz] at ea;cases hr:(qm n).any (fun s=>(mW s C).isSome) with
    |true=>
     grind
    |false=>
     rw[hr] at ea;exact⟨ea.symm,fun _=>X.aBP hT hl hf⟩
theorem axh{T:List jY}{n:jY}(g:ZA T)(h:Nsm n):Ev (fun f=>Xh f T n) (UU T n):=by
 refine Ev.fn (fun n=>by simp only[Xh,kG,Wk,mB];exact rfl) ?_;refine Ev.bind (arj h) ?_;unfold UU;cases hc:xN n==0 with
 |false=>grind [Ev.pure]
 |true=>
 simp only[bne,hc,gK,jN,jM];have k:Ok n:=Ok.of (jS.1 hc);rw[show decide ((100:Int)<=(T.length:Int))=decide (100<=T.length) from decide_eq_decide.2 (by omega)];have hT:=g.len;cases azI:decide (100<=T.length) with
 |true=>exact Ev.pure
 |false=>
 simp only[jN];refine Ev.bind (alO k k) ?_;cases AP n n with
 |true=>exact Ev.pure
 |false=>
 simp only[jN,gz]
 have key: ∀d i:Nat,i+d=T.length->kR (fun f m=>DT f m T (i:Int) n) (bif (T.drop i).any (fun t=>IK t n||AP t n) then 8 else 0):=by
  intro d;induction d with
  |zero=>
   intro i hi;refine kR.lp (fun n m=>by simp only[Wj,HI,mB];exact rfl) ?_
   grind [kR.pure]
  |succ d ih=>
   intro i hi;have hlt:i<T.length:=by omega
   have kt:=g.ok (gC hlt);refine kR.lp (fun n m=>by simp only[Wj,HI,mB];exact rfl) ?_;have:decide ((i:Int)<(T.length:Int))=true:=jO (by omega);simp only[this,jM];refine kR.idx hlt ?_;have next:=ih (i+1) (by omega)
   rw[<-kO (by omega)] at next
   rw[gr hlt,gW]
   have aBI:kR (fun f m=>(wq T (i:Int)).bind fun x=>(AF f x n).bind fun x=>bif x then some 8 else DT f m T (IntKind.i64.wrap ((i:Int)+1)) n) (bif AP T[i] n||(T.drop (i+1)).any (fun t=>IK t n||AP t n) then 8 else 0):=by
    refine kR.idx hlt (kR.lQ (alO kt k) ?_);cases AP T[i] n with
    |true=>exact kR.pure
    |false=>exact next
   refine kR.lQ (Fl kt.pos).2 (kR.lQ (Fl k.pos).2 ?_);rw[show IK T[i] n=(I9 T[i]==I9 n&&pS T[i]==pS n) from rfl];cases I9 T[i]==I9 n with
   |false=>grind
   |true=>
    simp only[jM,gw];refine kR.idx hlt (kR.lQ (aa3 kt) (kR.lQ (aa3 k) ?_));cases pS T[i]==pS n with
    |true=>exact kR.pure
    |false=>grind
 exact Ev.zH (F:=fun f m=>DT f m T 0 n) (key T.length 0 (by omega))
theorem ahC{T:List jY}(hl:T.length<=cap)(h: ∀n∈T,Nsm n):Ev (fun f=>J8 f T) (abU T):=by
 refine Ev.fn (fun n=>by simp only[J8,kG,Pa,mB];exact rfl) ?_;simp only[cap] at hl
 have key: ∀d i:Nat,i+d=T.length->ZA (T.take i)->kR (fun f m=>Dv f m T (i:Int)) (acz (T.take i) (T.drop i)):=by
  intro d;induction d with
  |zero=>
   intro i hi g;refine kR.lp (fun n m=>by simp only[Qv,Du,mB];exact rfl) ?_;have:decide ((i:Int)<(T.length:Int))=false:=jP (by omega);simp only[this,jN,gy (show T.length<=i by omega)];exact kR.pure
  |succ d ih=>
   intro i hi g;have hlt:i<T.length:=by omega
   refine kR.lp (fun n m=>by simp only[Qv,Du,mB];exact rfl) ?_;have:decide ((i:Int)<(T.length:Int))=true:=jO (by omega);simp only[this,jM];rw[jO (show(0:Int)<=(i:Int)/\(i:Int)<=(T.length:Int)/\(T.length:Int)<=(T.length:Int) by omega)];simp only[jM,gD];refine kR.idx hlt ?_;refine kR.lQ (axh g (h _ (gC hlt))) ?_;rw[gr hlt,acz];cases ha:UU (T.take i) T[i]==0 with
   |false=>grind [kR.pure]
   |true=>
    simp only[bne,ha,gK,jN,gw];have g':=g.snoc (jS.1 ha)
    grind [List.take_succ_eq_append_getElem,kO]
 have:=key T.length 0 (by omega) (by rw[List.take_zero];exact ZA.nil);rw[List.take_zero,gU] at this;exact Ev.zH (F:=fun f m=>Dv f m T 0) this
end Go.Abs
