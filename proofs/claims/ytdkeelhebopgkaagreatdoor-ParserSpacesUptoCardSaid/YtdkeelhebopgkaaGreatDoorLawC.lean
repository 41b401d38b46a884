/- A part of the proof: plain facts. -/
import Derived.Test.YtdkeelhebopgkaaGreatDoorLawB
set_option linter.all false
open List renaming length_map → jt
namespace Go.Abs
variable {j9:List Str}{i:Nat}{s t:Str}{x:Syntax}
section
variable {T:List jH} (g:Ma T)
include g
theorem asj(hs:s.length<=65536)(h:(p6 T s).2.2≠0):(p6 T s).1=Pl/\0<=(p6 T s).2.1/\(p6 T s).2.1<=(s.length:Int):=by
 unfold p6 at h ⊢;cases he:(ny (mb [] T) s).2.2==0 with
 |false=>
  have:=g.ase hs he;exact⟨rfl,this.1,this.2⟩
 |true=>
  rw[he,ju] at h;rw[ju];have ht:=g.tk hs (jB.1 he);have hw:=ht.sok.whole ht.avf (g.anP s) (by show(Zc T s).T.length<=100000;have:=ht.le;omega) ht.pos;cases hq:(Zc T s).S.whole with
  |ok x j=>rw[hq] at h;exact absurd rfl h
  |er e a=>
   rw[hq] at hw;obtain⟨_,i,j,hi,hj,h1,h2⟩:=hw;have hi:i<(Zc T s).T.length:=hi;have hj:j<(Zc T s).T.length:=hj;rw[aeS hi] at h1;rw[aeS hj] at h2;have k1:=ht.mem _ (List.getElem_mem hi);have k2:=ht.mem _ (List.getElem_mem hj)
   grind [Zc]
omit g in
theorem adX{e a:Int}(h0:(ny (mb [] T) s).2.2=0)(hx:(Zc T s).S.Bd 200 0= .er e a):p6 T s=(Pl,a,e):=by
 unfold p6;rw[show((ny (mb [] T) s).2.2==0)=true from jB.2 h0,ju];unfold Src.whole;rw[hx];rfl
theorem avn(hs:s.length<=1000)(h:(p6 T s).2.2=0):
 (p6 T (40::10::(s++10::41::[]))).2.2=7\/((p6 T (40::10::(s++10::41::[]))).2.2=0/\Ev (fun n=>pz n (p6 T s).1 (p6 T (40::10::(s++10::41::[]))).1) true/\
   (p6 T (40::10::(s++10::41::[]))).1.from_=(p6 T s).1.from_+2/\(p6 T (40::10::(s++10::41::[]))).1.to=(p6 T s).1.to+2):=by
 obtain⟨x,j,h0,hx,hj,h4,he,hr⟩:=Ic g (s:=s) (by omega) h;have hsy:=GK g.ok;have Kc:(40::10::(s++10::41::[]):Str).length=s.length+4:=by simp
 have ht:=g.tk (s:=s) (by omega) h0;have hS:ny (mb [] T) s=Hv (mb [] T) s 0:=Jq hsy (by omega)
 have hS':ny (mb [] T) (40::10::(s++10::41::[]))=(⟨2,[40],0⟩::(((Hv (mb [] T) s 0).1.map (Xe 2)).dropLast++[⟨2,[41],((2+s.length+1:Nat):Int)⟩,⟨4,[],((2+s.length+2:Nat):Int)⟩]),0,0):=by
  grind [Jq,avj]
 revert Kc hS';generalize hs':(40::10::(s++10::41::[]):Str)=s';intro Kc hS';have h0':(ny (mb [] T) s').2.2=0:=by rw[hS']
 have hT:(Zc T s').T=[⟨2,[40],0⟩]++(((Zc T s).T.map (Xe 2)).dropLast++⟨2,[41],((2+s.length+1:Nat):Int)⟩::[⟨4,[],((2+s.length+2:Nat):Int)⟩]):=by
  show(ny (mb [] T) s').1=[⟨2,[40],0⟩]++(((ny (mb [] T) s).1.map (Xe 2)).dropLast++_);rw[hS',hS];rfl
 have w:=ahu g (s:=s) (s':=s') (by omega) (by omega) h0 h0' hT (.inr rfl);have hp:=ht.pos
 have hn:j+1=(Zc T s).T.length:=by
  rcases Nat.lt_or_ge (j+1) (Zc T s).T.length with h1|h1
  ·rw[EP hj] at h4;exact absurd h4 (ht.next j h1).2.2
  ·omega
 have hl2:(Zc T s').T.length=(Zc T s).T.length+2:=by grind
 have k0:(Zc T s').S.K 0=(2,[40]):=aks (t:=⟨2,[40],0⟩) (by rw[hT];rfl)
 have k1:(Zc T s').S.K (j+1)=(2,[41]):=aks (t:=⟨2,[41],((2+s.length+1:Nat):Int)⟩) (by
  grind)
 have k2:((Zc T s').S.K (j+2)).1=4:=by
  rw[aks (t:=⟨4,[],((2+s.length+2:Nat):Int)⟩) (by
   have:=anT (p:=[⟨2,[40],0⟩]) (A:=(Zc T s).T.map (Xe 2)) (R:=⟨2,[41],((2+s.length+1:Nat):Int)⟩::[⟨4,[],((2+s.length+2:Nat):Int)⟩]) (k:=1) (by rw[jt];exact hp)
   grind)]
 have n0:(Zc T s').S.nx 0=0+1:=if_pos (show 0+1<(Zc T s').T.length by omega);have n1:(Zc T s').S.nx (j+1)=j+2:=if_pos (show j+1+1<(Zc T s').T.length by omega);have i40:(Zc T s').S.isS [40]=false:=Vq g.ok (by decide);have hb:=(w.both (dp:=true) 200 199 (by decide) (.inl rfl)).1 0 0 (Nat.le_refl _) w.pos;rw[hx] at hb;rcases hb with⟨x',hx',_,_,hsm,a,ha,ha1,ha2⟩|⟨_,a,ha⟩
 ·refine .inr ?_
  have hop:(Zc T s').S.op ((Zc T s').S.Bd 199) ((Zc T s').S.adr 199) 0= .ok x' (j+2):=
   amP k0 i40 n0 hx' k1 n1 (Stop.apy k2) (aht (g.azp s') 199 _ x' _ hx')
  have hex:(Zc T s').S.Bd 200 0= .ok x' (j+2):=by
   show(Zc T s').S.Fx ((Zc T s').S.Bd 199) ((Zc T s').S.adr 199) 0=_
   grind [Rc,akr,Src.sym,Src.is]
  rw[adV h0' hex k2,he];obtain⟨b,hb0,XO,hb2,hb3⟩:=hsm.to
  have at2: ∀i (hi:i+1<(Zc T s).T.length),(Zc T s').T[i+1]? =some (Xe 2 (Zc T s).T[i]):=fun i hi=>by
   have:=axy (p:=[⟨2,[40],0⟩]) (A:=(Zc T s).T.map (Xe 2)) (R:=⟨2,[41],((2+s.length+1:Nat):Int)⟩::[⟨4,[],((2+s.length+2:Nat):Int)⟩]) (i:=i) (by rw[jt];exact hi)
   grind
  refine⟨rfl,hsm.same hr,?_,?_⟩
  ·have ha:a+1<(Zc T s).T.length:=ha;have e1:x'.from_=(Zc T s').S.F (a+1):=ha2;have e2:(Zc T s').S.F (a+1)=(Zc T s').b+((Zc T s).T[a].at_+2):=aAu (at2 a ha);have e3:(Zc T s').b=0:=rfl;have e4:(Zc T s).b=0:=rfl
   grind [aeS]
  ·obtain⟨b,rfl⟩: ∃k,b=k+1:=⟨b-1,by omega⟩;have XO:b+1<(Zc T s).T.length:=XO;have e1:x'.to=(Zc T s').S.E (b+1+1):=hb3;have e2:(Zc T s').S.E (b+1+1)=(Zc T s').b+((Zc T s).T[b].at_+2+((Zc T s).T[b].text.length:Int)):=aAv (at2 b XO);have e3:(Zc T s').b=0:=rfl;have e4:(Zc T s).b=0:=rfl
   grind [ave]
 ·refine .inl ?_
  have hex:(Zc T s').S.Bd 200 0= .er 7 a:=by
   show(Zc T s').S.Fx ((Zc T s').S.Bd 199) ((Zc T s').S.adr 199) 0=_
   grind [Rc,Zs,amQ]
  rw[adX h0' hex]
end
theorem aeW(x0:Str)(x1:List jH)(h:(x0.length+1)+GS jH.Ks x1<=1048576)(_:True)(_: ∀y∈x1,y.wf): ∃n,EM n x0 x1=some true:=by
 obtain⟨h1,h2⟩:=anQ (x0:=x0) (x1:=x1) (by omega);refine MS (li.ev ?_);refine li.fn (fun n=>by simp only[EM,kq,CD,mB];exact rfl) ?_;refine li.pO (fun _=>GO rfl) fun hl=> ?_
 have hl:=jz hl;refine li.bind (ab1 h1 h2) fun b hb=> ?_
 cases b with
 |false=>exact GO rfl
 |true=>
  have g:Ma x1:=⟨hb rfl,h2⟩;simp only[ju];refine Ev.to (MT g (by omega)) ?_;cases he:(p6 x1 x0).2.2==0 with
  |false=>
   obtain⟨k1,k2,k3⟩:=asj g (s:=x0) (by omega) (jC.1 he);simp only[bne,he,Bool.not_false,ju];refine Ev.to Pz ?_;rw[k1];have e1:(Pl.kind==0)=true:=rfl;have e2:((Pl.kids.length:Int)==0)=true:=rfl;simp only[e1,e2,jw k2,jw k3,ju];exact li.pure rfl
  |true=>
   have hp:=avn g (s:=x0) (by omega) (jB.1 he);have e1:(40::10::(x0++10::41::[]):Str).length<=65536:=by grind
   have d1:decide (2+x0.length<=9223372036854775807)=true:=jw (by omega);have d2:decide (x0.length<=9223372036854775803)=true:=jw (by omega)
   have hb:0<=(p6 x1 x0).1.from_/\(p6 x1 x0).1.to<=(x0.length:Int)/\(p6 x1 x0).1.from_<=(p6 x1 x0).1.to:=by
    obtain⟨r1,r2,r3⟩:=adR g (s:=x0) (by omega) (jB.1 he);exact⟨r2,r3,r1.le⟩
   simp only[bne,he,Bool.not_true,jv,d1,d2,ju];refine Ev.to (MT g e1) ?_;rcases hp with h7|⟨q0,q1,q2,q3⟩
   ·rw[h7];exact GO rfl
   ·rw[q0,q2,q3,wrap_small (by omega) (by omega),wrap_small (by omega) (by omega)];refine Ev.to Pz ?_;refine Ev.to q1 ?_;simp only[ju,beq_self_eq_true];exact li.pure rfl
theorem asl{T:Str->Int×Nat×Int}: ∀(r:Str)(a:Nat),(wW T r a).2.2=0->wW T r a=((wW T r a).1,0,0)
 |[],a,_=>by rw[wW]
 |c::t,a,h=>by
  grind [wW]
theorem apE(hs:j9.all CL=true)(t:Str):nH j9 (45::62::32::t)=(2,2,0):=by
 have hv:uA (45::62::32::t) 0 (oV++j9)=2:=by
  obtain⟨a1,_,a3⟩:=CK (45::62::32::t) (oV++j9) 0;have hge:2<=uA (45::62::32::t) 0 (oV++j9):=a3 [45,62] (List.mem_append_left _ (by decide)) rfl;rcases a1 with a1|⟨_,b2,b3⟩
  ·omega
  ·revert hge b2 b3;generalize uA (45::62::32::t) 0 (oV++j9)=v;intro hge b2 b3;rcases Nat.lt_or_ge v 3 with h|h
   ·omega
   ·obtain⟨v,rfl⟩: ∃k,v=k+3:=⟨v-3,by omega⟩;have:=(VX hs (w:=32) rfl).2.2 _ b3
    grind
 rw[nH,show yf 45=false from rfl,show pq 45=false from rfl,show((45:UInt8)==34)=false from rfl]
 grind [Wy]
theorem apF(hs:j9.all CL=true){a:Nat}{L:List j8}(hL:Hv j9 t (a+3)=(L,0,0)):Hv j9 (45::62::32::t) a=(⟨2,[45,62],(a:Int)⟩::L,0,0):=by
 have h2:Hv j9 (32::t) (a+2)=(L,0,0):=by rw[VY rfl];exact hL
 unfold Hv at h2;rw[Zp rfl,wW,apE hs]
 grind
theorem apG(hs:j9.all CL=true)(h:(Hv j9 (41::t) 0).2.2=0):(Hv j9 (41::t) 0).1[0]? =some ⟨2,[41],0⟩:=by
 rw[Zp rfl,wW,ahq hs (by decide) (by decide) (fun y hy h=> .inl (by revert y;decide)) (by decide)] at h ⊢
 grind
theorem avo(hs:j9.all CL=true)(h41:s.head?≠some 41)(h0:(Hv j9 s 0).2.2=0)(h1:(Hv j9 t 0).2.2=0):
 Hv j9 (40::40::(s++10::41::41::32::45::62::32::t)) 0=(⟨2,[40],0⟩::⟨2,[40],1⟩::(((Hv j9 s 0).1.map (Xe 2)).dropLast++⟨2,[41],((2+s.length+1:Nat):Int)⟩::⟨2,[41],((2+s.length+2:Nat):Int)⟩::⟨2,[45,62],((2+s.length+4:Nat):Int)⟩::(Hv j9 t 0).1.map (Xe (2+s.length+7))),0,0):=by
 refine adP hs (by simp) (adP hs (fun h=> ?_) (adW hs h0 (akn hs ?_)))
 ·cases s with
  |nil=>simp at h
  |cons c s=>exact h41 (by simpa using h)
 ·rw[VY rfl];refine apF hs ?_;have h2:=ash j9 t 0 (2+s.length+7)
  grind [Hv,asl]
section
variable {S:Src} {ex ta:Nat->Rs Syntax}
theorem avp(h:S.K i=(2,[41]))(hs:S.isS [41]=false):S.Fx ex ta i= .er 4 (S.F i):=by
 have st:Stop S i:=Stop.sym h (by decide) hs;unfold Src.Fx;simp only[asi h,LJ h,jv];show S.z7 ex ta i=_;refine Zs ?_;unfold Src.op;rw[st.tU];rfl
theorem apH {j k:Nat}{y:Syntax}(h:S.op ex ta i= .ok x j)(hj:S.K j=(2,[45,62]))(hn:S.nx j=j+1)(hy:ex (j+1)= .ok y k)(h1:S.K (i+1)=(2,[40])):S.z7 ex ta i= .ok (.mk 4 [] 0 [] [] [x,y] x.from_ y.to) k:=by
 have hw:(S.written i).isEmpty=true:=by
  unfold Src.written;cases S.sym [40] i with
  |false=>rfl
  |true=>
   rw[ju];cases S.len-(i+1) with
   |zero=>rfl
   |succ m=>
    grind [Src.isVar,Src.simple,Src.wr,LJ]
 unfold Src.z7;rw[h];simp only[Rs.bind,LJ hj,beq_self_eq_true,ju,hn,hy,hw,Bool.not_true,Bool.and_false,jv];rfl
theorem asn {j:Nat}{e a:Int}(h:S.op ex ta i= .ok x j)(hj:S.K j=(2,[45,62]))(hn:S.nx j=j+1)(hy:ex (j+1)= .er e a):S.z7 ex ta i= .er e a:=by
 grind [Src.z7,Rs.bind,LJ]
end
section
variable {T:List jH} (g:Ma T)
include g
theorem avq(hs:s.length<=1000)(h:(p6 T s).2.2=0):s.head?≠some 41:=by
 intro h41;obtain⟨x,j,h0,hx,hj,h4,he,hr⟩:=Ic g (s:=s) (by omega) h
 match s,h41 with
 |c::t,h41=>
  obtain rfl:c=41:=by simpa using h41
  have hsy:=GK g.ok;have hS:ny (mb [] T) (41::t)=Hv (mb [] T) (41::t) 0:=Jq hsy (by omega)
  have k0:(Zc T (41::t)).S.K 0=(2,[41]):=aks (t:=⟨2,[41],0⟩) (by
   show(ny (mb [] T) (41::t)).1[0]? =_
   grind [apG])
  have:(Zc T (41::t)).S.Bd 200 0= .er 4 ((Zc T (41::t)).S.F 0):=avp k0 (Vq g.ok (by decide));rw[this] at hx;cases hx
theorem avr(hs:s.length<=500)(hts:t.length<=500)(h:(p6 T s).2.2=0)(h':(p6 T t).2.2=0):
 (p6 T (40::40::(s++10::41::41::32::45::62::32::t))).2.2=7\/ ∃x y f e,p6 T (40::40::(s++10::41::41::32::45::62::32::t))=(.mk 4 [] 0 [] [] [x,y] f e,0,0)/\
   Ev (fun n=>pz n x (p6 T s).1) true/\Ev (fun n=>pz n y (p6 T t).1) true:=by
 have hsh:=avq g (s:=s) (by omega) h;obtain⟨x,j,h0,hx,hj,h4,he,hr⟩:=Ic g (s:=s) (by omega) h;obtain⟨y,k,h1,hy,hk,h5,he',hr'⟩:=Ic g (s:=t) (by omega) h';have hsy:=GK g.ok;have Kc:(40::40::(s++10::41::41::32::45::62::32::t):Str).length=s.length+t.length+9:=by simp;omega
 have ht:=g.tk (s:=s) (by omega) h0;have ht':=g.tk (s:=t) (by omega) h1;have hS:ny (mb [] T) s=Hv (mb [] T) s 0:=Jq hsy (by omega);have hS1:ny (mb [] T) t=Hv (mb [] T) t 0:=Jq hsy (by omega);have hS':ny (mb [] T) (40::40::(s++10::41::41::32::45::62::32::t))=_:=(Jq hsy (by omega)).trans (avo hsy hsh (by rw[<-hS];exact h0) (by rw[<-hS1];exact h1));rw[<-hS,<-hS1] at hS';revert Kc hS';generalize hs':(40::40::(s++10::41::41::32::45::62::32::t):Str)=s';generalize ((2+s.length+1:Nat):Int)=a1;generalize ((2+s.length+2:Nat):Int)=a2;generalize ((2+s.length+4:Nat):Int)=a3;generalize 2+s.length+7=m;intro Kc hS';have h0':(ny (mb [] T) s').2.2=0:=by rw[hS']
 have hn:j+1=(Zc T s).T.length:=by
  rcases Nat.lt_or_ge (j+1) (Zc T s).T.length with h1|h1
  ·rw[EP hj] at h4;exact absurd h4 (ht.next j h1).2.2
  ·omega
 have hn':k+1=(Zc T t).T.length:=by
  rcases Nat.lt_or_ge (k+1) (Zc T t).T.length with h1|h1
  ·rw[EP hk] at h5;exact absurd h5 (ht'.next k h1).2.2
  ·omega
 have hT:(Zc T s').T=[⟨2,[40],0⟩,⟨2,[40],1⟩]++(((Zc T s).T.map (Xe 2)).dropLast++⟨2,[41],a1⟩::⟨2,[41],a2⟩::⟨2,[45,62],a3⟩::(Zc T t).T.map (Xe m)):=by
  show(ny (mb [] T) s').1=_;rw[hS'];rfl
 have hB:(Zc T t).T.map (Xe m)=((Zc T t).T.map (Xe m)).dropLast++[Xe m (Zc T t).T[k]]:=by
  have hne:(Zc T t).T.map (Xe m)≠[]:=by grind [List.length_nil]
  refine(List.dropLast_concat_getLast hne).symm.trans ?_
  grind
 have hT2:(Zc T s').T=([⟨2,[40],0⟩,⟨2,[40],1⟩]++(((Zc T s).T.map (Xe 2)).dropLast++[⟨2,[41],a1⟩,⟨2,[41],a2⟩,⟨2,[45,62],a3⟩]))++(((Zc T t).T.map (Xe m)).dropLast++Xe m (Zc T t).T[k]::[]):=by
  grind
 have hpl:([⟨2,[40],0⟩,⟨2,[40],1⟩]++(((Zc T s).T.map (Xe 2)).dropLast++[⟨2,[41],a1⟩,⟨2,[41],a2⟩,⟨2,[45,62],a3⟩]):List j8).length=j+5:=by
  grind
 have hl2:(Zc T s').T.length=j+5+(k+1):=by grind
 have wa:=ahu g (s:=s) (s':=s') (by omega) (by omega) h0 h0' hT (.inr rfl);have k5:(Xe m (Zc T t).T[k]).kind=4:=by show(Zc T t).T[k].kind=4;rw[ht'.apy k hk hn']
 have wb:=ahu g (s:=t) (s':=s') (by omega) (by omega) h1 h0' hT2 (.inl k5);rw[hpl] at wb
 have out: ∀(i:Nat)(q:j8),(⟨2,[41],a1⟩::⟨2,[41],a2⟩::⟨2,[45,62],a3⟩::(Zc T t).T.map (Xe m):List j8)[i]? =some q->(Zc T s').S.K (j+2+i)=(q.kind,q.text):=fun i q hq=>aks (t:=q) (by
  have:=anT (p:=[⟨2,[40],0⟩,⟨2,[40],1⟩]) (A:=(Zc T s).T.map (Xe 2)) (R:=⟨2,[41],a1⟩::⟨2,[41],a2⟩::⟨2,[45,62],a3⟩::(Zc T t).T.map (Xe m)) (k:=i) (by rw[jt];exact ht.pos);rw[jt] at this;rw[hT,<-hq,<-this];congr 1;simp only[List.length_cons,List.length_nil];omega)
 have k0:(Zc T s').S.K 0=(2,[40]):=aks (t:=⟨2,[40],0⟩) (by rw[hT];rfl);have k1:(Zc T s').S.K (0+1)=(2,[40]):=aks (t:=⟨2,[40],1⟩) (by rw[hT];rfl);have kj:(Zc T s').S.K (j+2)=(2,[41]):=out 0 ⟨2,[41],a1⟩ rfl;have kj1:(Zc T s').S.K (j+2+1)=(2,[41]):=out 1 ⟨2,[41],a2⟩ rfl;have kj2:(Zc T s').S.K (j+2+1+1)=(2,[45,62]):=out 2 ⟨2,[45,62],a3⟩ rfl
 have ke:((Zc T s').S.K (k+(j+5))).1=4:=by
  rw[show k+(j+5)=j+2+(k+3) by omega,out (k+3) (Xe m (Zc T t).T[k]) (by
   show((Zc T t).T.map (Xe m))[k]? =_
   grind)]
  exact k5
 have nn: ∀i,i+1<j+5+(k+1)->(Zc T s').S.nx i=i+1:=fun i hi=>if_pos (show i+1<(Zc T s').T.length by omega)
 have i40:(Zc T s').S.isS [40]=false:=Vq g.ok (by decide);have i41:(Zc T s').S.isS [41]=false:=Vq g.ok (by decide);have iar:(Zc T s').S.isS [45,62]=false:=Vq g.ok (by decide);have ba:=(wa.both (dp:=true) 200 198 (by decide) (.inl rfl)).1 0 0 (Nat.le_refl _) wa.pos;have bb:=(wb.both (dp:=true) 200 199 (by decide) (.inl rfl)).1 0 0 (Nat.le_refl _) wb.pos;rw[hx] at ba;rw[hy] at bb;have b0:(Zc T s').S.Bd 200 0=(Zc T s').S.z7 ((Zc T s').S.Bd 199) ((Zc T s').S.adr 199) 0:=Rc k0;have b1:(Zc T s').S.Bd 199 (0+1)=(Zc T s').S.z7 ((Zc T s').S.Bd 198) ((Zc T s').S.adr 198) (0+1):=Rc k1;rcases ba with⟨x',hx',_,_,hsm,_⟩|⟨_,a,ha⟩
 ·have h17:=aht (g.azp s') 198 _ x' _ hx';have o1:(Zc T s').S.op ((Zc T s').S.Bd 198) ((Zc T s').S.adr 198) (0+1)= .ok x' (j+2+1):=amP k1 i40 (nn _ (by omega)) hx' kj (nn _ (by omega)) (Stop.sym kj1 (by decide) i41) h17;have e1:(Zc T s').S.Bd 199 (0+1)= .ok x' (j+2+1):=b1.trans (akr o1 (by rw[LJ kj1];rfl));have o0:(Zc T s').S.op ((Zc T s').S.Bd 199) ((Zc T s').S.adr 199) 0= .ok x' (j+2+1+1):=amP k0 i40 (nn _ (by omega)) e1 kj1 (nn _ (by omega)) (Stop.sym kj2 (by decide) iar) h17;rcases bb with⟨y',hy',_,_,aAw,_⟩|⟨_,a,ha⟩
  ·refine .inr ⟨x',y',x'.from_,y'.to,?_⟩;rw[show 0+(j+5)=j+2+1+1+1 by omega] at hy';have hex:(Zc T s').S.Bd 200 0= .ok (.mk 4 [] 0 [] [] [x',y'] x'.from_ y'.to) (k+(j+5)):=b0.trans (apH o0 kj2 (nn _ (by omega)) hy' k1);have hz:=adV h0' hex ke;obtain⟨_,_,_,_,_,_,hz',hrz⟩:=Ic g (s:=s') (by omega) (by rw[hz]);obtain rfl:=(Prod.mk.inj (hz.symm.trans hz')).1;refine⟨hz,?_,?_⟩
   ·cases hrz with
    |mk _ _ _ _ _ _ h7 _=>
     have:=adU (h7 x' (by simp)) x;rw[hsm.amM,Zd] at this;rw[he];exact this
   ·cases hrz with
    |mk _ _ _ _ _ _ h7 _=>
     have:=adU (h7 y' (by simp)) y;rw[aAw.amM,Zd] at this;rw[he'];exact this
  ·refine .inl ?_;rw[show 0+(j+5)=j+2+1+1+1 by omega] at ha;rw[adX h0' (b0.trans (asn o0 kj2 (nn _ (by omega)) ha))]
 ·refine .inl ?_;have e1:(Zc T s').S.Bd 199 (0+1)= .er 7 a:=b1.trans (Zs (amQ k1 i40 (nn _ (by omega)) ha));rw[adX h0' (b0.trans (Zs (amQ k0 i40 (nn _ (by omega)) e1)))]
end
theorem aeX(x0 x1:Str)(x2:List jH)(h:(x0.length+1)+((x1.length+1)+GS jH.Ks x2)<=1048576)(_:True)(_:True)(_: ∀y∈x2,y.wf): ∃n,EO n x0 x1 x2=some true:=by
 obtain⟨h1,h2⟩:=anQ (x0:=x0) (x1:=x2) (by omega);refine MS (li.ev ?_);refine li.fn (fun n=>by simp only[EO,kq,CG,mB];exact rfl) ?_;refine li.pO (fun _=>GO rfl) fun hl=>li.pO (fun _=>GO rfl) fun Kc=> ?_
 have hl:=jz hl;have Kc:=jz Kc;refine li.bind (ab1 h1 h2) fun b hb=> ?_
 cases b with
 |false=>exact GO rfl
 |true=>
  have g:Ma x2:=⟨hb rfl,h2⟩;simp only[ju];refine Ev.to (MT g (by omega)) (Ev.to (MT g (by omega)) ?_);cases he:(p6 x2 x0).2.2==0 with
  |false=>simp only[bne,he,Bool.not_false,ju];exact GO rfl
  |true=>
   cases he':(p6 x2 x1).2.2==0 with
   |false=>simp only[bne,he,he',Bool.not_true,Bool.not_false,jv,ju];exact GO rfl
   |true=>
    have hp:=avr g (s:=x0) (t:=x1) (by omega) (by omega) (jB.1 he) (jB.1 he');have es:(40::40::(x0++[10,41,41,32,45,62,32]++x1):Str)=40::40::(x0++10::41::41::32::45::62::32::x1):=by simp
    have e1:(40::40::(x0++10::41::41::32::45::62::32::x1):Str).length<=65536:=by grind [List.length_append]
    simp only[bne,he,he',Bool.not_true,jv,jw (show 2+x0.length<=9223372036854775807 by omega),jw (show x0.length<=9223372036854775798 by omega),jw (show x0.length+7+1+1+x1.length<=9223372036854775807 by omega),ju,es];refine Ev.to (MT g e1) ?_;rcases hp with h7|⟨x,y,f,e,q0,q1,q2⟩
    ·rw[h7];exact GO rfl
    ·rw[q0];refine Ev.to Pz ?_;have i0:tu [x,y] 0=some x:=rfl;have i1:tu [x,y] 1=some y:=rfl;have b1:(([x,y]:List Syntax).length:Int)==2:=rfl;have b7:((0:Int)==7)=false:=rfl;simp only[Syntax.prj,b7,jv,ju,beq_self_eq_true,i0,i1,b1,Option.bind_some];refine Ev.to q1 ?_;simp only[ju];exact Ev.to q2 (li.pure rfl)
end Go.Abs
