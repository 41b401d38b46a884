/- A part of the proof: plain facts. -/
import Derived.Test.YtfilfimjoeapgaaDoorLawA
set_option linter.all false
open List renaming not_mem_nil → mJ,mem_cons → mK
namespace Go.Abs
set_option maxRecDepth 100000
def EN (p a:Int):Notation:=⟨[[],[37],[]],p,a,[102]⟩
def Iw (q b:Int):Notation:=⟨[[],[38],[]],q,b,[103]⟩
theorem lvA_chk {p a:Int} (h1:0≤p) (h2:p≤100) (h3:0≤a) (h4:a≤2):yC (EN p a)=0:=by
 unfold yC
 rw[show (EN p a).parts=[[],[37],[]] from rfl,show (EN p a).level=p from rfl,show (EN p a).assoc=a from rfl,show A3 (EN p a)=true from rfl,show Jj (EN p a)=true from rfl,show F3 (EN p a).target=true from by kernel_rfl]
 rw[decide_eq_false (show ¬ p<0 by omega),decide_eq_false (show ¬ 100<p by omega),decide_eq_false (show ¬ a<0 by omega),decide_eq_false (show ¬ 2<a by omega)]
 rw[show ([[],[37],[]]:List Str).all (fun s=>s==[]||PX s)=true from by kernel_rfl,show MM [[],[37],[]]=false from rfl,show ([[],[37],[]]:List Str).all (· ==[])=false from rfl]
 simp
theorem lvB_chk {p a:Int} (h1:0≤p) (h2:p≤100) (h3:0≤a) (h4:a≤2):yC (Iw p a)=0:=by
 unfold yC
 rw[show (Iw p a).parts=[[],[38],[]] from rfl,show (Iw p a).level=p from rfl,show (Iw p a).assoc=a from rfl,show A3 (Iw p a)=true from rfl,show Jj (Iw p a)=true from rfl,show F3 (Iw p a).target=true from by kernel_rfl]
 rw[decide_eq_false (show ¬ p<0 by omega),decide_eq_false (show ¬ 100<p by omega),decide_eq_false (show ¬ a<0 by omega),decide_eq_false (show ¬ 2<a by omega)]
 rw[show ([[],[38],[]]:List Str).all (fun s=>s==[]||PX s)=true from by kernel_rfl,show MM [[],[38],[]]=false from rfl,show ([[],[38],[]]:List Str).all (· ==[])=false from rfl]
 simp
theorem lv_add1 {p a:Int} (h1:0≤p) (h2:p≤100) (h3:0≤a) (h4:a≤2):Dj [] (EN p a)=0:=by
 unfold Dj
 rw[lvA_chk h1 h2 h3 h4,show xR (EN p a) (EN p a)=false from rfl]
 rfl
theorem lv_add2 {p a q b:Int} (h1:0≤q) (h2:q≤100) (h3:0≤b) (h4:b≤2):Dj [EN p a] (Iw q b)=0:=by
 unfold Dj
 rw[lvB_chk h1 h2 h3 h4,show xR (Iw q b) (Iw q b)=false from rfl,show ([EN p a].any fun t=>Cu t (Iw q b)||xR t (Iw q b))=false from rfl]
 rfl
def DC (c:UInt8):Syntax:= .mk 0 [c] 0 [] [] [] 0 0
def lvS (c:UInt8):Syntax:= .mk 17 [c] 0 [] [] [] 0 0
def lvL:List Syntax:=[DC 117,lvS 37,DC 118,lvS 38,DC 119]
theorem hole0 (n:Notation) (h:n.parts.length=3) (hl:A3 n=true) (hr:Jj n=true):rG n 0=bif n.assoc==1 then n.level else n.level+1:=by
 unfold rG L5
 rw[h,hl,hr]
 cases n.assoc==1<;>rfl
theorem hole2 (n:Notation) (h:n.parts.length=3) (hl:A3 n=true) (hr:Jj n=true):rG n 2=bif n.assoc==2 then n.level else n.level+1:=by
 unfold rG L5
 rw[h,hl,hr]
 cases n.assoc==2<;>rfl
section lv
variable {p a q b:Int}
abbrev Uh (p a q b:Int):List Notation:=[EN p a,Iw q b]
theorem lv_goA {m has:Int} {r:List Syntax} (h1:m≤p) (h2:rG (EN p a) 0≤has):TL (Uh p a q b) m has (lvS 37::r)=some (EN p a):=by
 show (bif decide (p<m)||decide (has<rG (EN p a) 0) then none else some (EN p a))=_
 rw[decide_eq_false (by omega),decide_eq_false (by omega)];rfl
theorem lv_goB {m has:Int} {r:List Syntax} (h1:m≤q) (h2:rG (Iw q b) 0≤has):TL (Uh p a q b) m has (lvS 38::r)=some (Iw q b):=by
 show (bif decide (q<m)||decide (has<rG (Iw q b) 0) then none else some (Iw q b))=_
 rw[decide_eq_false (by omega),decide_eq_false (by omega)];rfl
theorem lv_noB {m has:Int} {r:List Syntax} (h:q<m∨has<rG (Iw q b) 0):TL (Uh p a q b) m has (lvS 38::r)=none:=by
 show (bif decide (q<m)||decide (has<rG (Iw q b) 0) then none else some (Iw q b))=_
 rcases h with h|h
 ·rw[decide_eq_true h];rfl
 ·rw[decide_eq_true h,Bool.or_true];rfl
theorem KT {m:Int} {c:UInt8} {r:List Syntax}:C2 (Uh p a q b) (.first m (DC c::r)) (.val (DC c) 101 r):= .GO (by show (0:Int)≠17;decide)
theorem TZ {o x:Syntax} {h:Int} {r s:List Syntax} (hx:C2 (Uh p a q b) (.level (rG (EN p a) 2) r) (.val x h s)):C2 (Uh p a q b) (.parts (EN p a) ((EN p a).parts.drop 1) 1 [o] 0 (lvS 37::r)) (.ops [o,x] x.to s):=
 .sym (by decide) rfl rfl (.hole hx .Hu)
theorem Z3 {o x:Syntax} {h:Int} {r s:List Syntax} (hx:C2 (Uh p a q b) (.level (rG (Iw q b) 2) r) (.val x h s)):C2 (Uh p a q b) (.parts (Iw q b) ((Iw q b).parts.drop 1) 1 [o] 0 (lvS 38::r)) (.ops [o,x] x.to s):=
 .sym (by decide) rfl rfl (.hole hx .Hu)
theorem lv_w {m:Int}:C2 (Uh p a q b) (.level m [DC 119]) (.val (DC 119) 101 []):= .level KT (.stop rfl)
def Z6 (n:Notation) (x y:Syntax) (f:Int):Syntax:=L6 n [x,y] f y.to
theorem lv_right (hp:0≤p) (hA:rG (EN p a) 0≤101) (hB:rG (Iw q b) 0≤101) (h:rG (EN p a) 2≤q):
 C2 (Uh p a q b) (.level 0 lvL) (.val (Z6 (EN p a) (DC 117) (Z6 (Iw q b) (DC 118) (DC 119) 0) 0) p []):=by
 have inner:C2 (Uh p a q b) (.level (rG (EN p a) 2) [DC 118,lvS 38,DC 119]) (.val (Z6 (Iw q b) (DC 118) (DC 119) 0) q []):=
  .level KT (.go (lv_goB h hB) (Z3 lv_w) (.stop rfl))
 exact .level KT (.go (lv_goA hp hA) (TZ inner) (.stop rfl))
theorem lv_left (hp:0≤p) (hq:0≤q) (hA:rG (EN p a) 0≤101) (h:q<rG (EN p a) 2) (h2:rG (Iw q b) 0≤p):
 C2 (Uh p a q b) (.level 0 lvL) (.val (Z6 (Iw q b) (Z6 (EN p a) (DC 117) (DC 118) 0) (DC 119) 0) q []):=by
 have inner:C2 (Uh p a q b) (.level (rG (EN p a) 2) [DC 118,lvS 38,DC 119]) (.val (DC 118) 101 [lvS 38,DC 119]):=
  .level KT (.stop (lv_noB (.inl h)))
 exact .level KT (.go (lv_goA hp hA) (TZ inner) (.go (lv_goB hq h2) (Z3 lv_w) (.stop rfl)))
theorem lv_none (hp:0≤p) (hA:rG (EN p a) 0≤101) (h:q<rG (EN p a) 2) (h2:p<rG (Iw q b) 0):
 C2 (Uh p a q b) (.level 0 lvL) (.val (Z6 (EN p a) (DC 117) (DC 118) 0) p [lvS 38,DC 119]):=by
 have inner:C2 (Uh p a q b) (.level (rG (EN p a) 2) [DC 118,lvS 38,DC 119]) (.val (DC 118) 101 [lvS 38,DC 119]):=
  .level KT (.stop (lv_noB (.inl h)))
 exact .level KT (.go (lv_goA hp hA) (TZ inner) (.stop (lv_noB (.inr h2))))
end lv
def lvF (c:UInt8) (x y:Syntax):Syntax:=ZD (ZD (DC c) x 0 0) y 0 0
theorem OY {o o' x x':Syntax} {f t:Int} (h1:O5 false o o') (h2:O5 false x x'):O5 false (ZD o x f t) (ZD o' x' 0 0):=by
 refine .mk rfl rfl rfl rfl rfl (fun h=>by cases h) rfl fun i i1 i2=> ?_
 have i1:i<2:=i1
 match i,i1 with
 |0,_=>exact h1
 |1,_=>exact h2
theorem Z4 {c:UInt8} {f t:Int}:O5 false (nameN [c] f t) (DC c):= .mk rfl rfl rfl rfl rfl (fun h=>by cases h) rfl fun i i1 _=>absurd i1 (Nat.not_lt_zero _)
theorem alk_gA {p a:Int} {x y x' y':Syntax} {f:Int} (h1:O5 false x x') (h2:O5 false y y'):O5 false (Z6 (EN p a) x y f) (lvF 102 x' y'):=OY (OY Z4 h1) h2
theorem alk_gB {p a:Int} {x y x' y':Syntax} {f:Int} (h1:O5 false x x') (h2:O5 false y y'):O5 false (Z6 (Iw p a) x y f) (lvF 103 x' y'):=OY (OY Z4 h1) h2
theorem Ru (c:UInt8):Ev (fun n=>x9 n [c]) (DC c):=by
 refine Ev.fn (fun n=>by simp only[x9,Kn];exact rfl) ?_
 exact Ev.pure
theorem V5 (c:UInt8):Ev (fun n=>AB n [c]) (lvS c):=by
 refine Ev.fn (fun n=>by simp only[AB,G3];exact rfl) ?_
 exact Ev.pure
theorem OZ (c:UInt8) (x y:Syntax):Ev (fun n=>wO n [c] [x,y]) (lvF c x y):=by
 refine Ev.fn (fun n=>by simp only[wO,I4];exact rfl) ?_
 refine Ev.bind (Ru c) ?_
 refine ⟨5,fun n hn=> ?_⟩
 obtain ⟨k,rfl⟩: ∃k,n=k+5:=⟨n-5,by omega⟩
 rfl
theorem Rv (c:UInt8):zC (DC c):= .mk (Nat.zero_le _) (Nat.zero_le _) (fun l hl=>by cases hl) (Nat.zero_le _) (fun x hx=>by cases hx)
theorem Xm {x m:Int} (h:Uf .u8 x) (hm:0<m) (hm2:m≤101):IntKind.i64.wrap (x.tmod m)=x.tmod m∧0≤x.tmod m∧x.tmod m<m:=by
 have h0:0≤x:=(wfI_u8 h).1
 have h1:=Int.tmod_nonneg m h0
 have h2:=Int.tmod_lt_of_pos x hm
 exact ⟨wrap_small (by omega) (by omega),h1,h2⟩
theorem Ua (x0:Law25Pair) (h:x0.bulk≤1048576) (hw:x0.wf): ∃n,B4 n x0=some true:=by
 refine It ?_
 obtain ⟨w1,w2,w3,w4,_⟩:=hw
 obtain ⟨p1,p2,p3⟩:=Xm w1 (m:=101) (by omega) (by omega)
 obtain ⟨q1,q2,q3⟩:=Xm w2 (m:=101) (by omega) (by omega)
 obtain ⟨a1,a2,a3⟩:=Xm w3 (m:=3) (by omega) (by omega)
 obtain ⟨b1,b2,b3⟩:=Xm w4 (m:=3) (by omega) (by omega)
 refine Ev.fn (fun n=>by simp only[B4,AS];exact rfl) ?_
 rw[p1,q1,a1,b1]
 generalize x0.left.tmod 101=p at p2 p3
 generalize x0.right.tmod 101=q at q2 q3
 generalize x0.xU.tmod 3=a at a2 a3
 generalize x0.wu.tmod 3=b at b2 b3
 have sA:Mu (EN p a):=Mu.of (by rw[show (EN p a).bulk=10 from rfl];simp only[cap];omega)
 have sB:Mu (Iw q b):=Mu.of (by rw[show (Iw q b).bulk=10 from rfl];simp only[cap];omega)
 have ad1:=lv_add1 (p:=p) (a:=a) p2 (by omega) a2 (by omega)
 have ad2:=lv_add2 (p:=p) (a:=a) (q:=q) (b:=b) q2 (by omega) b2 (by omega)
 have tb1:Fb [EN p a]=true:=by
  show (Dj [] (EN p a)==0&&true)=true
  rw[ad1];rfl
 have tb2:Fb (Uh p a q b)=true:=by
  show (Dj [] (EN p a)==0&&(Dj [EN p a] (Iw q b)==0&&true))=true
  rw[ad1,ad2];rfl
 have e1:Ev (fun f=>wM f [] (EN p a)) ([EN p a],0):=by
  have:=(Xk (T:=[]) (n:=EN p a) (Nat.zero_le _) (fun n hn=>by cases hn) sA).1
  unfold Xj at this
  rw[ad1] at this
  exact this
 have e2:Ev (fun f=>wM f [EN p a] (Iw q b)) (Uh p a q b,0):=by
  have:=(Xk (T:=[EN p a]) (n:=Iw q b) (by simp only[cap];simp) (by simpa using sA) sB).1
  unfold Xj at this
  rw[tb1,ad2] at this
  exact this
 have sT: ∀n∈Uh p a q b,Mu n:=by
  intro n hn
  simp only[mK,mJ,or_false] at hn
  rcases hn with rfl|rfl
  ·exact sA
  ·exact sB
 have hA0:rG (EN p a) 0=bif a==1 then p else p+1:=hole0 (EN p a) rfl rfl rfl
 have hA2:rG (EN p a) 2=bif a==2 then p else p+1:=hole2 (EN p a) rfl rfl rfl
 have hB0:rG (Iw q b) 0=bif b==1 then q else q+1:=hole0 (Iw q b) rfl rfl rfl
 have hA0':rG (EN p a) 0≤101:=by rw[hA0];cases a==1<;>simp only[cond_true,cond_false]<;>omega
 have hB0':rG (Iw q b) 0≤101:=by rw[hB0];cases b==1<;>simp only[cond_true,cond_false]<;>omega
 have parse: ∀ {o:Out},C2 (Uh p a q b) (.level 0 lvL) o→Ev (fun f=>rF f (Uh p a q b) lvL) (wU lvL o):=fun ho=>(TV (T:=Uh p a q b) (L:=lvL) (by simp only[cap];simp) sT (by simp only[cap];decide) tb2 (by decide) ho)
 have right:=fun (h:rG (EN p a) 2≤q)=>lv_right (b:=b) p2 hA0' hB0' h
 have left:=fun (h:q<rG (EN p a) 2) (h2:rG (Iw q b) 0≤p)=>lv_left p2 q2 hA0' h h2
 have none_:=fun (h:q<rG (EN p a) 2) (h2:p<rG (Iw q b) 0)=>lv_none p2 hA0' h h2
 have alR:O5 false (Z6 (EN p a) (DC 117) (Z6 (Iw q b) (DC 118) (DC 119) 0) 0) (lvF 102 (DC 117) (lvF 103 (DC 118) (DC 119))):=alk_gA (O5.refl _ _) (alk_gB (O5.refl _ _) (O5.refl _ _))
 have alL:O5 false (Z6 (Iw q b) (Z6 (EN p a) (DC 117) (DC 118) 0) (DC 119) 0) (lvF 103 (lvF 102 (DC 117) (DC 118)) (DC 119)):=alk_gB (alk_gA (O5.refl _ _) (O5.refl _ _)) (O5.refl _ _)
 have sR:zC (Z6 (EN p a) (DC 117) (Z6 (Iw q b) (DC 118) (DC 119) 0) 0):=Fg _ _ _ _ (by
  intro x hx
  simp only[mK,mJ,or_false] at hx
  rcases hx with rfl|rfl
  ·exact Rv _
  ·exact Fg _ _ _ _ (by intro x hx;simp only[mK,mJ,or_false] at hx;rcases hx with rfl|rfl<;>exact Rv _))
 have sL:zC (Z6 (Iw q b) (Z6 (EN p a) (DC 117) (DC 118) 0) (DC 119) 0):=Fg _ _ _ _ (by
  intro x hx
  simp only[mK,mJ,or_false] at hx
  rcases hx with rfl|rfl
  ·exact Fg _ _ _ _ (by intro x hx;simp only[mK,mJ,or_false] at hx;rcases hx with rfl|rfl<;>exact Rv _)
  ·exact Rv _)
 refine Ev.bind e1 (Ev.bind e2 (Ev.bind (Ru 117) (Ev.bind (Ru 118) (Ev.bind (Ru 119) (Ev.bind (V5 37) (Ev.bind (V5 38) ?_))))))
 have binds: ∀ {G:Nat→Syntax→Syntax→Option Bool} {z:Syntax×Int×Int},Ev (fun f=>rF f (Uh p a q b) lvL) z→Ev (fun f=>G f (lvF 103 (lvF 102 (DC 117) (DC 118)) (DC 119)) (lvF 102 (DC 117) (lvF 103 (DC 118) (DC 119)))) true→
  Ev (fun n=>(wO n [102] [DC 117,DC 118]).bind fun x=>(wO n [103] [x,DC 119]).bind fun x=>(wO n [103] [DC 118,DC 119]).bind fun x_8=>(wO n [102] [DC 117,x_8]).bind fun x_9=>G n x x_9) true:=
  fun _ hg=>Ev.bind (OZ _ _ _) (Ev.bind (OZ _ _ _) (Ev.bind (OZ _ _ _) (Ev.bind (OZ _ _ _) hg)))
 rcases Int.lt_trichotomy p q with hlt|heq|hgt
 ·have hr:=right (by rw[hA2];cases a==2<;>simp only[cond_true,cond_false]<;>omega)
  have hP:=parse hr
  refine Ev.bind hP ?_
  simp only[show ((0:Int) !=0)=false from rfl,cond_false]
  refine binds hP ?_
  rw[decide_eq_false (show ¬ q<p by omega),decide_eq_true hlt]
  exact Ev.bind (Md alR sR) yU
 ·subst heq
  simp only[show ((0:Int) !=0)=false from rfl,cond_false,Int.lt_irrefl,decide_false]
  cases ha:a==2 with
  |true=>
   rw[ha] at hA2
   have hP:=parse (right (by rw[hA2];exact Int.le_refl _))
   refine Ev.bind hP (binds hP ?_)
   exact Ev.bind (Md alR sR) yU
  |false=>
   rw[ha,cond_false] at hA2
   simp only[cond_false]
   cases hb:b==1 with
   |true=>
    rw[hb,cond_true] at hB0
    have hP:=parse (left (by omega) (by omega))
    refine Ev.bind hP (binds hP ?_)
    exact Ev.bind (Md alL sL) yU
   |false=>
    rw[hb,cond_false] at hB0
    have hP:=parse (none_ (by omega) (by omega))
    refine Ev.bind hP (binds hP ?_)
    exact yU
 ·have hl:=left (by rw[hA2];cases a==2<;>simp only[cond_true,cond_false]<;>omega) (by rw[hB0];cases b==1<;>simp only[cond_true,cond_false]<;>omega)
  have hP:=parse hl
  refine Ev.bind hP ?_
  simp only[show ((0:Int) !=0)=false from rfl,cond_false]
  refine binds hP ?_
  rw[decide_eq_true hgt]
  exact Ev.bind (Md alL sL) yU
end Go.Abs
