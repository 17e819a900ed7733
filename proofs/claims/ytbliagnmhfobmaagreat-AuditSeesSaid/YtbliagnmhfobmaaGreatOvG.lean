/- The plan for an image (layer 22): the program and the reference say the same. -/
import Derived.Test.YtbliagnmhfobmaaGreatOvF
import Derived.Test.YtbliagnmhfobmaaGreatOvD
import Derived.Test.YtbliagnmhfobmaaGreatOvB
namespace Go.Ovl
open Go Go.Ab
set_option maxRecDepth 100000
theorem n6v' (x y:Int):(x != y)=(y != x):=by
 by_cases h:x=y
 ·rw [h]
 ·rw [bne_t h,bne_t (fun h'=>h h'.symm)]
def recsV (was now:Entry):List Record:=
 (bif was.V0 != now.V0||!(was.Q1==now.Q1) then [⟨7,now.C0,now.G0,(bif now.Q1 then 1 else 0),now.V0⟩] else [])++(bif was.O0 != now.O0 then [⟨3,now.C0,now.G0,now.O0,0⟩] else [])
theorem n0e' (a b:Entry):(recsV a b).length≤2:=by
 unfold recsV;cases (a.V0 != b.V0||!(a.Q1==b.Q1)) <;> cases a.O0 != b.O0 <;> simp
def carAt (b:Bldg) (i:Int):Car:=b.A0.getD i.toNat (Car.mk 0 0 0 0 0 0 0 0 0)
noncomputable def nextV (b:Bldg) (vs:List View) (e n:Entry) (x:Int):Int:=
 bif n.O0 != e.O0&&decide (0≤n.O0) then (bif decide (1000000 < IntKind.i64.wrap (estV b n.O0 (nl' vs n.O0) e.C0 e.G0 + (carAt b n.O0).O2)) then 1000000 else IntKind.i64.wrap (estV b n.O0 (nl' vs n.O0) e.C0 e.G0 + (carAt b n.O0).O2))
 else (bif decide (IntKind.i64.wrap (x - 1) < 0) then 0 else IntKind.i64.wrap (x - 1))
noncomputable def planR (b:Bldg) (vs:List View):List Entry→List Int→List Record
 | e :: t,x :: xs=>recsV e (decV b vs e x)++planR b vs t xs
 | _,_=>[]
noncomputable def planN (b:Bldg) (vs:List View):List Entry→List Int→List Int
 | e :: t,x :: xs=>nextV b vs e (decV b vs e x) x :: planN b vs t xs
 | _,_=>[]
theorem n0b' (b:Bldg) (vs:List View) (e:Entry) (x:Int):(decV b vs e x).C0=e.C0∧(decV b vs e x).G0=e.G0:=by
 unfold decV;cases e.O0==-2 <;> cases e.O0==-1 <;> cases (nl' vs e.O0).J3 <;> cases decide ((b.A0.length:Int) < e.V0) <;> cases (!e.Q1&&decide (e.V0≤(b.A0.length:Int))) <;> cases nhe' b vs e x != -1 <;> exact ⟨rfl,rfl⟩
theorem nbco' (b:Bldg) (vs:List View) (e:Entry) (x:Int):nob' vs (nhe' b vs e x):=by
 unfold nhe';cases nbm' b vs e.C0 e.G0 e.O0==-1 with
 | true=>exact .inl rfl
 | false=>
  cases nvd' b vs e x (nbm' b vs e.C0 e.G0 e.O0) with
  | true=>exact npb' ..
  | false=>exact .inl rfl
theorem n7e' (b:Bldg) {vs:List View} {e:Entry} (h:-2≤e.O0∧e.O0 < vs.length) (x:Int):-2≤(decV b vs e x).O0∧(decV b vs e x).O0 < vs.length:=by
 have k:∀ n:Int,nob' vs n→-2≤n∧n < vs.length:=fun n h=>by
  rcases h with rfl | h
  ·omega
  ·omega
 unfold decV;by_cases g1:e.O0=-2
 ·rw [show (e.O0==-2)=true by rw [g1]; rfl]; exact h
 rw [beq_f g1];by_cases g2:e.O0=-1
 ·rw [show (e.O0==-1)=true by rw [g2]; rfl]; exact k _ (npb' ..)
 rw [beq_f g2];simp only [cond_false];cases (nl' vs e.O0).J3 with
 | true=>
  cases decide ((b.A0.length:Int) < e.V0) with
  | true=>exact ⟨by show (-2:Int)≤-2; omega,by show (-2:Int) < _; omega⟩
  | false=>exact k _ (npb' ..)
 | false=>
  cases (!e.Q1&&decide (e.V0≤(b.A0.length:Int))) with
  | true=>
   cases nhe' b vs e x != -1 with
   | true=>exact k _ (nbco' ..)
   | false=>exact h
  | false=>exact h
theorem n05' {b:Bldg}:∀ {l:List Entry} {p:Option Entry},entsF b p l=true→∀ e ∈ l,entOK b e=true
 | [],_,_,_,he=>by cases he
 | a :: t,p,h,e,he=>by
  simp only [entsF,Bool.and_eq_true] at h;rcases List.mem_cons.1 he with rfl | he
  ·exact h.1
  ·exact n05' h.2.2 e he
theorem nvf' {α:Type} (N:List α) (a v:α) (t:List α):(N++a :: t).set N.length v=N++v :: t:=by
 induction N with
 | nil=>rfl
 | cons h N ih=>simp only [List.cons_append,List.length_cons,List.set_cons_succ,ih]
section
variable {b:Bldg} (hb:b.small) {vs:List View} (hv:okViews vs) (hl:vs.length≤100) (hlen:(vs.length:Int)=(b.A0.length:Int)) {m:Img} (hm:∀ e ∈ m.B0,entOK b e=true) (hm':m.B0.length≤1000) {xs:List Int} (hx:xs.length=m.B0.length)
include hb hv hl hlen hm hm' hx
theorem ntp':∀ (k i:Nat) (out:List Record) (N:List Int),i + k=m.B0.length→N.length=i→out.length≤2 * i →
  iter (fun x=>letI a:=x.2.1.2.2; letI b:=x.1.2.2.2.2; letI c:=a.2.2; letI d:=x.2.2.1; ngk' x.1.1 x.1.2.1 b.1 b.2.1 b.2.2.1 x.2.1.1 x.2.1.2.1 a.1 a.2.1 c.1 c.2.1 c.2.2.1 c.2.2.2.1 d.1 d.2.1 d.2.2.1 d.2.2.2.1) (k + 1)
   ((xs,vs,(),(),out,N,(i:Int),()),(b.tup,m.tup,()))=some ((out++planR b vs (m.B0.drop i) (xs.drop i),N++planN b vs (m.B0.drop i) (xs.drop i),()),())
 | 0,i,out,N,hi,hN,ho=>by
  refine no' ?_;show ngk' xs vs out N (i:Int) b.D0 b.E0 b.I0 b.Q0 b.J0 b.K0 b.P0 b.A0 m.F0 m.N0 m.H0 m.B0=_;unfold ngk';have e:decide ((i:Int) < (m.B0.length:Int))=false:=by simp; omega
  rw [e,show i=m.B0.length by omega,List.drop_length]
  simp [planR,planN]
 | k + 1,i,out,N,hi,hN,ho=>by
  have hi':i < m.B0.length:=by omega
  have hix:i < xs.length:=by omega
  have e:decide ((i:Int) < (m.B0.length:Int))=true:=by simp; omega
  have ib:inB (i:Int) m.B0.length=true:=na' (by omega) (by omega)
  have ibx:inB (i:Int) xs.length=true:=na' (by omega) (by omega)
  have w:IntKind.i64.wrap ((i:Int) + 1)=((i + 1:Nat):Int):=by rw [nc' (by omega) (by omega)]; omega
  have hok:=n5' noE hi';have hent:=hm _ hok;simp only [entOK,Bool.and_eq_true,decide_eq_true_eq] at hent;obtain ⟨_,c1,c2,c3,c4⟩:=hent;rw [nba' noE hi',nba' (0:Int) hix];simp only [planR,planN];obtain ⟨x,hxx⟩:∃ x,x=xs.getD i 0:=⟨_,rfl⟩;obtain ⟨a,ha⟩:∃ a,a=m.B0.getD i noE:=⟨_,rfl⟩;rw [← hxx,← ha];rw [← ha] at c1 c2 c3 c4;have hd:=nzh' hb hv hl (e:=a) (by omega) (by omega) ⟨c3,c4⟩ x
  have hin:=n7e' b (vs:=vs) (e:=a) (by omega) x
  have hcall:=n0b' b vs a x;obtain ⟨n,hn⟩:∃ n,n=decV b vs a x:=⟨_,rfl⟩;rw [← hn] at hd hin hcall ⊢;have hrl:=n0e' a n;refine (nv' (x':=((xs,vs,(),(),out++recsV a n,N++[nextV b vs a n x],((i + 1:Nat):Int),()),(b.tup,m.tup,()))) ?_).trans ?_
  ·show ngk' xs vs out N (i:Int) b.D0 b.E0 b.I0 b.Q0 b.J0 b.K0 b.P0 b.A0 m.F0 m.N0 m.H0 m.B0=_
   unfold ngk';rw [e,ib,ibx,show Entry.mk 0 0 0 0 false=noE from rfl]
   unfold Entry.tup at hd;have s1:(n.V0 != a.V0)=(a.V0 != n.V0):=n6v' _ _;have s2:(n.Q1==a.Q1)=(a.Q1==n.Q1):=by cases n.Q1 <;> cases a.Q1 <;> rfl
   have s3:(n.O0 != a.O0)=(a.O0 != n.O0):=n6v' _ _;have b1:∀ r:Record,Nat.ble (out.length + [r].length) 2147483648=true:=fun _=>nh' (by simp; omega)
   have b2:∀ r s:Record,Nat.ble ((out++[s]).length + [r].length) 2147483648=true:=fun _ _=>nh' (by simp; omega)
   have b3:∀ y:Int,Nat.ble (N.length + [y].length) 2147483648=true:=fun _=>nh' (by simp; omega)
   have w3:∀ y:Int,(bif decide (0 < y) then y else 0)=(bif decide (y < 0) then 0 else y):=fun y=>by
    by_cases g:0 < y
    ·rw [decide_eq_true g,decide_eq_false (show ¬ y < 0 by omega)]; rfl
    ·rw [decide_eq_false g]; by_cases g':y < 0
     ·rw [decide_eq_true g']; rfl
     ·rw [decide_eq_false g']; simp only [cond_false]; omega
   have hest:=n6w' hb (hv.at n.O0) n.O0 a.C0 a.G0;unfold estR nl' at hest;have fl:((vs,xs,out).1:List View)=vs:=rfl;rw [Int.toNat_natCast,← ha,← hxx];simp only [cond_true,hd,Option.bind_some,s1,s2];unfold nextV;rw [s3];unfold recsV carAt nl';rw [hcall.1,hcall.2];by_cases hge:0≤n.O0
   ·have ibc:inB n.O0 vs.length=true:=na' hge hin.2
    have ibc':inB n.O0 b.A0.length=true:=na' hge (by omega)
    rw [decide_eq_true hge]
    cases hne:a.O0 != n.O0 <;> cases hmv:a.V0 != n.V0 <;> cases hmd:a.Q1==n.Q1 <;> cases hnm:n.Q1 <;>
     (simp only [cond_true,cond_false,Option.bind_some,hne,s3,hge,decide_true,Bool.not_true,Bool.not_false,Bool.or_self,Bool.or_true,Bool.or_false,Bool.and_self,Bool.false_and,b1,b2,b3,ibc,ibc',ibx,hest,w,w3,List.append_assoc,List.nil_append,List.append_nil,Int.toNat_natCast,← hxx]; rfl)
   ·rw [decide_eq_false hge]
    cases hne:a.O0 != n.O0 <;> cases hmv:a.V0 != n.V0 <;> cases hmd:a.Q1==n.Q1 <;> cases hnm:n.Q1 <;>
     (simp only [cond_true,cond_false,Option.bind_some,hne,s3,hge,decide_false,Bool.not_true,Bool.not_false,Bool.or_self,Bool.or_true,Bool.or_false,Bool.and_false,b1,b2,b3,ibx,w,w3,List.append_assoc,List.nil_append,List.append_nil,Int.toNat_natCast,← hxx]; rfl)
  ·rw [ntp' k (i + 1) _ (N++[_]) (by omega) (by simp; omega) (by rw [List.length_append]; omega)]
   simp only [List.append_assoc,List.singleton_append]
end
def expOK (xs:List Int):Bool:=xs.all (inR 0 1000000)
theorem nv7' (m:Img) {xs:List Int} (hl:xs.length≤maxLen):ncg' m.F0 m.N0 m.H0 m.B0 xs=some ((expOK xs&&(xs.length:Int)==(m.B0.length:Int),()),()):=by
 have hm:maxLen≤9223372036854775807:=by decide
 have key:∀ (k i:Nat),i + k=xs.length→iter (fun x=>nbe' x.1.1 x.1.2.2.1 x.2.1.1 x.2.1.2.1 x.2.1.2.2.1 x.2.1.2.2.2.1) (k + 1) ((xs,(),(i:Int),()),(m.tup,()))=some (if (xs.drop i).all (inR 0 1000000) then .inl ((xs,(),()),(m.tup,())) else .inr ((false,()),())):=by
  intro k
  induction k with
  | zero=>
   intro i hi;refine no' ?_;show nbe' xs (i:Int) m.F0 m.N0 m.H0 m.B0=_;unfold nbe';rw [show decide ((i:Int) < (xs.length:Int))=false by simp; omega,show i=xs.length by omega,List.drop_length]; rfl
  | succ k ih=>
   intro i hi;have hi':i < xs.length:=by omega
   have hs:nbe' xs (i:Int) m.F0 m.N0 m.H0 m.B0=some (bif inR 0 1000000 (xs.getD i 0) then .inl ((xs,(),((i + 1:Nat):Int),()),(m.tup,())) else .inr (.inr ((false,()),()))):=by
    unfold nbe';have w:IntKind.i64.wrap ((i:Int) + 1)=((i + 1:Nat):Int):=by rw [nc' (by omega) (by omega)]; omega
    rw [show decide ((i:Int) < (xs.length:Int))=true by simp; omega,na' (by omega) (by omega),w]
    simp only [cond_true,Int.toNat_natCast];unfold inR;by_cases g:xs.getD i 0 < 0
    ·rw [decide_eq_true g,decide_eq_false (show ¬ 0≤xs.getD i 0 by omega)]; rfl
    ·rw [decide_eq_false g,decide_eq_true (show 0≤xs.getD i 0 by omega)]
     by_cases g':1000000 < xs.getD i 0
     ·rw [decide_eq_true g',decide_eq_false (show ¬ xs.getD i 0≤1000000 by omega)]; rfl
     ·rw [decide_eq_false g',decide_eq_true (show xs.getD i 0≤1000000 by omega)]; rfl
   rw [nba' (0:Int) hi',List.all_cons];cases hq:inR 0 1000000 (xs.getD i 0) with
   | true=>rw [hq] at hs; exact (nv' hs).trans (ih (i + 1) (by omega))
   | false=>rw [hq] at hs; exact no' hs
 have h1:net' ((xs,(),(0:Int),()),(m.tup,()))=_:=ng' (key xs.length 0 (by omega)) (by omega)
 rw [List.drop_zero] at h1;unfold Img.tup at h1;unfold ncg';rw [h1];unfold expOK;cases xs.all (inR 0 1000000) <;> rfl
noncomputable def planV (b:Bldg) (m:Img) (xs:List Int) (vs:List View):List Record×List Int×Int×Unit:=
 bif m.ok b&&((xs.length:Int)==(m.B0.length:Int)&&((vs.length:Int)==(b.A0.length:Int)&&expOK xs)) then (planR b vs m.B0 xs,planN b vs m.B0 xs,0,()) else ([],[],1,())
theorem Img.ok_all {b:Bldg} {m:Img} (h:m.ok b=true):b.code=0∧m.F0.length=b.A0.length∧m.N0.length=b.A0.length∧m.H0.length=b.A0.length∧(∀ p ∈ m.F0,0≤p∧p≤4)∧(∀ e ∈ m.B0,entOK b e=true)∧entsF b Option.none m.B0=true:=by
 unfold Img.ok at h;simp only [Bool.and_eq_true,beq_iff_eq] at h;obtain ⟨h0,h1,h2,h3,h4,h5⟩:=h;exact ⟨h0,by omega,by omega,by omega,fun p hp=>ns'.1 (List.all_eq_true.1 h4 p hp),n05' h5,h5⟩
section
variable {b:Bldg} (hb:b.small) {vs:List View} (hv:okViews vs) (hl:vs.length≤100) (m:Img) (hm:m.B0.length≤1000) (hp:m.F0.length≤maxLen) (xs:List Int) (hx:xs.length≤maxLen)
include hb hv hl hm hp hx
theorem n5y':nmf' b.D0 b.E0 b.I0 b.Q0 b.J0 b.K0 b.P0 b.A0 m.F0 m.N0 m.H0 m.B0 xs vs=some (planV b m xs vs,()):=by
 have hmx:1000≤maxLen:=by decide
 unfold nmf' planV;rw [nbk' hb m hp (by omega),nv7' m hx]
 simp only [Option.bind_some,bne];cases hok:m.ok b with
 | false=>rfl
 | true=>
  cases hq:(xs.length:Int)==(m.B0.length:Int) with
  | false=>cases expOK xs <;> rfl
  | true=>
   cases he:expOK xs with
   | false=>cases (vs.length:Int)==(b.A0.length:Int) <;> rfl
   | true=>
    cases hr:(vs.length:Int)==(b.A0.length:Int) with
    | false=>rfl
    | true=>
     have hq':(xs.length:Int)=(m.B0.length:Int):=by simpa using hq
     have hr':(vs.length:Int)=(b.A0.length:Int):=by simpa using hr
     obtain ⟨_,_,_,_,_,hall,_⟩:=Img.ok_all hok;have hlp:=ng' (ntp' hb hv hl hr' hall hm (xs:=xs) (by omega) m.B0.length 0 [] [] (by omega) rfl (by simp)) (by omega)
     have hlp':nl1' ((xs,vs,(),(),([]:List Record),([]:List Int),(0:Int),()),(b.tup,m.tup,()))=_:=hlp;unfold Bldg.tup Img.tup at hlp';simp only [Bool.and_self,Bool.not_true,cond_false,cond_true,hlp',Option.bind_some,List.drop_zero,List.nil_append]
end
theorem n0y' (b:Bldg) (vs:List View):∀ (l:List Entry) (xs:List Int),(planR b vs l xs).length≤2 * l.length
 | [],_=>by simp [planR]
 | _ :: _,[]=>by simp [planR]
 | e :: t,x :: xs=>by
  have h1:=n0y' b vs t xs;have h2:=n0e' e (decV b vs e x);simp only [planR,List.length_append,List.length_cons];omega
theorem n0v' (b:Bldg) (vs:List View):∀ (l:List Entry) (xs:List Int),xs.length=l.length→(planN b vs l xs).length=l.length
 | [],_,_=>by simp [planN]
 | _ :: _,[],h=>by simp at h
 | e :: t,x :: xs,h=>by
  simp only [planN,List.length_cons,n0v' b vs t xs (by simpa using h)]
theorem n0m' (b:Bldg) (m:Img) (xs:List Int) (vs:List View):(planV b m xs vs).1.length≤2 * m.B0.length∧(planV b m xs vs).2.1.length≤m.B0.length:=by
 unfold planV;cases hq:(m.ok b&&((xs.length:Int)==(m.B0.length:Int)&&((vs.length:Int)==(b.A0.length:Int)&&expOK xs))) with
 | false=>exact ⟨by simp,by simp⟩
 | true=>
  simp only [Bool.and_eq_true,beq_iff_eq] at hq;refine ⟨n0y' b vs m.B0 xs,?_⟩;show (planN b vs m.B0 xs).length≤_;rw [n0v' b vs m.B0 xs (by omega)]
  exact Nat.le_refl _
def noV:View:=View.mk false false false false 0 0 0 0 0 0 0 0
def noP:Calls:=Calls.mk 0 0
structure Lan where
 lit:List Calls
 gong:List Bool
 cl:Int×Int
def Lan.tup (l:Lan):List Calls×List Bool×Int×Int×Unit:=(l.lit,l.gong,l.cl.1,l.cl.2,())
def Lan.none:Lan:=⟨[],[],(0,0)⟩
def litC (b:Bldg) (vs:List View) (i:Nat) (s:Lan):Int×Int:=nr' (nbs' b (vs.getD i noV)) s.cl
def litS (b:Bldg) (vs:List View) (ps:List Calls) (i:Nat) (s:Lan):Lan:=⟨s.lit++[Calls.mk (litC b vs i s).1 (litC b vs i s).2],s.gong++[!isZ (nr' (litC b vs i s) ((ps.getD i noP).Up,(ps.getD i noP).G5))],n1' s.cl (litC b vs i s)⟩
def njp' (b:Bldg) (vs:List View) (ps:List Calls):Lan:=foldN (litS b vs ps) vs.length 0 Lan.none
def nur' (b:Bldg) (vs:List View) (ps:List Calls):Lan×Int:=bif (vs.length:Int)==(b.A0.length:Int)&&((ps.length:Int)==(b.A0.length:Int)) then (njp' b vs ps,0) else (Lan.none,1)
section
variable {b:Bldg} (hb:b.small) (hcode:b.code=0)
include hb hcode
theorem n4b' (vs:List View) (ps:List Calls) (hl:vs.length≤1000):nnp' b.D0 b.E0 b.I0 b.Q0 b.J0 b.K0 b.P0 b.A0 vs ps=some (((),(nur' b vs ps).2,()),((nur' b vs ps).1.tup,())):=by
 unfold nnp' nur';rw [ny',hcode];simp only [Option.bind_some,bne_self_eq_false,cond_false];by_cases h1:vs.length=b.A0.length
 ·by_cases h2:ps.length=b.A0.length
  ·have h:=nz' (step:=fun x=>letI a:=x.2.1.2.2; letI b:=x.2.2; letI c:=a.2.2; letI d:=b.2.1; ne5' x.1.1 x.1.2.1 x.1.2.2.2.2.2.1 x.2.1.1 x.2.1.2.1 a.1 a.2.1 c.1 c.2.1 c.2.2.1 c.2.2.2.1 b.1.1 b.1.2.1 b.1.2.2.1 b.1.2.2.2.1 d.1 d.2.1 d.2.2.1 d.2.2.2.1) vs.length (fun i (s:Lan)=>((vs,ps,(),(),(),(i:Int),()),(b.tup,Lan.none.tup,s.tup,()))) (litS b vs ps) (fun i s=>s.lit.length=i∧s.gong.length=i) (fun s=>(((),(),()),(Lan.none.tup,s.tup,()))) (fun i s hi hs=>⟨by
    show ne5' vs ps (i:Int) b.D0 b.E0 b.I0 b.Q0 b.J0 b.K0 b.P0 b.A0 [] [] 0 0 s.lit s.gong s.cl.1 s.cl.2=_;unfold ne5';rw [show View.mk false false false false 0 0 0 0 0 0 0 0=noV from rfl,show Calls.mk 0 0=noP from rfl]
    simp only [decide_eq_true (show (i:Int) < (vs.length:Int) by omega),na' (show (0:Int)≤(i:Int) by omega) (show (i:Int) < (vs.length:Int) by omega),na' (show (0:Int)≤(i:Int) by omega) (show (i:Int) < (ps.length:Int) by omega),cond_true,Int.toNat_natCast,ntq' hb hcode,Option.bind_some,wrap1 hi (show vs.length≤nu' by unfold nu'; omega)]
    have e1:=nik' (nbs' b (vs.getD i noV)) s.cl;have e2:=nik' (litC b vs i s) ((ps.getD i noP).Up,(ps.getD i noP).G5);have e3:=nev' s.cl (litC b vs i s);unfold litC at e2 e3;simp only at e2;simp only [e1,Option.bind_some,e2,e3];rw [nh' (show s.lit.length + [Calls.mk (nr' (nbs' b (vs.getD i noV)) s.cl).1 (nr' (nbs' b (vs.getD i noV)) s.cl).2].length≤2147483648 by show s.lit.length + 1≤_; omega)]
    rw [nh' (show s.gong.length + [!((nr' (nr' (nbs' b (vs.getD i noV)) s.cl) ((ps.getD i noP).Up,(ps.getD i noP).G5)).1==0&&((nr' (nr' (nbs' b (vs.getD i noV)) s.cl) ((ps.getD i noP).Up,(ps.getD i noP).G5)).2==0&&true))].length≤2147483648 by show s.gong.length + 1≤_; omega)]
    rfl,by
    constructor
    ·show (s.lit++[_]).length=_; rw [List.length_append,List.length_singleton,hs.1]
    ·show (s.gong++[_]).length=_; rw [List.length_append,List.length_singleton,hs.2]⟩) (fun s _=>by
    show ne5' vs ps (vs.length:Int) b.D0 b.E0 b.I0 b.Q0 b.J0 b.K0 b.P0 b.A0 [] [] 0 0 s.lit s.gong s.cl.1 s.cl.2=_;unfold ne5';simp only [decide_eq_false (Int.lt_irrefl (vs.length:Int)),cond_false]
    rfl) vs.length 0 Lan.none (by omega) ⟨rfl,rfl⟩
   have h:nj3' ((vs,ps,(),(),(),(0:Int),()),(b.tup,Lan.none.tup,Lan.none.tup,()))=some (((),(),()),(Lan.none.tup,(njp' b vs ps).tup,())):=ng' h.1 (by omega)
   simp only [Bldg.tup,Lan.tup,Lan.none] at h;rw [h1,h2];simp only [bne_self_eq_false,cond_false,beq_self_eq_true,Bool.and_self,cond_true,h];rfl
  ·rw [h1,bne_self_eq_false,bne_t (show ¬ (ps.length:Int)=(b.A0.length:Int) by omega),beq_f (show ¬ (ps.length:Int)=(b.A0.length:Int) by omega),Bool.and_false]
   rfl
 ·rw [bne_t (show ¬ (vs.length:Int)=(b.A0.length:Int) by omega),beq_f (show ¬ (vs.length:Int)=(b.A0.length:Int) by omega)]
  rfl
end
def servB (b:Bldg) (vs:List View) (F D:Int):Bool:=vs.any fun v=>bitC (nbs' b v) F.toNat D
def servL (b:Bldg) (vs:List View) (l:List Entry):List Record:=l.flatMap fun e=>bif servB b vs e.C0 e.G0 then [Record.mk 2 e.C0 e.G0 0 0] else []
theorem nbd4' (b:Bldg) (vs:List View) {f:Nat} {d:Int}:∀ (k i:Nat) (s:Int×Int),i + k=vs.length→bitC (foldN (fun i s=>n1' s (nbs' b (vs.getD i noV))) k i s) f d=(bitC s f d||(vs.drop i).any fun v=>bitC (nbs' b v) f d)
 | 0,i,s,hi=>by rw [show i=vs.length by omega,List.drop_length]; simp [foldN]
 | k + 1,i,s,hi=>by
  show bitC (foldN (fun i s=>n1' s (nbs' b (vs.getD i noV))) k (i + 1) (n1' s (nbs' b (vs.getD i noV)))) f d=_
  rw [nbd4' b vs k (i + 1) _ (by omega),nxc',nba' noV (show i < vs.length by omega),List.any_cons,Bool.or_assoc]
theorem nup' (b:Bldg) (vs:List View):∀ l:List Entry,(servL b vs l).length≤l.length
 | []=>Nat.le_refl _
 | e :: t=>by
  have h:=nup' b vs t;show ((bif servB b vs e.C0 e.G0 then [Record.mk 2 e.C0 e.G0 0 0] else [])++servL b vs t).length≤_;rw [List.length_append,List.length_cons];cases servB b vs e.C0 e.G0 <;> simp <;> omega
theorem n30' {b:Bldg} (hb:b.small) {e:Entry} (h:nk' b e.C0 e.G0=true):callE e:=by
 have lo:=hb.lo;have hi:=hb.hi;unfold nk' callB at h;simp only [Bool.and_eq_true,Bool.or_eq_true,beq_iff_eq,ns'] at h;unfold callE;omega
section
variable {b:Bldg} (hb:b.small) (hcode:b.code=0) {m:Img} (hm:ImgOK b m) (hl:m.B0.length≤100000) (vs:List View) (hv:(vs.length:Int)=(b.A0.length:Int))
include hb hcode hm hl hv
omit hm hl in
theorem nyh' {e:Entry} (he:callE e) (i:Int) {out:List Record} (ho:out.length≤100000):njz' ((vs,(),(),out,i,(),(0:Int),()),(b.tup,m.tup,(e.C0,e.G0,e.O0,e.V0,e.Q1,()),()))=some ((vs,(),(),out++(bif servB b vs e.C0 e.G0 then [Record.mk 2 e.C0 e.G0 0 0] else []),i,()),(b.tup,m.tup,())):=by
 have hcc:=nn' hcode
 have key:∀ (k j:Nat),j + k=vs.length→iter (fun x=>letI a:=x.2.1.2.2; letI b:=x.2.2; letI c:=b.2.1; letI d:=a.2.2; ne6' x.1.1 x.1.2.2.2.1 x.1.2.2.2.2.1 x.1.2.2.2.2.2.2.1 x.2.1.1 x.2.1.2.1 a.1 a.2.1 d.1 d.2.1 d.2.2.1 d.2.2.2.1 b.1.1 b.1.2.1 b.1.2.2.1 b.1.2.2.2.1 c.1 c.2.1 c.2.2.1 c.2.2.2.1 c.2.2.2.2.1) (k + 1) ((vs,(),(),out,i,(),(j:Int),()),(b.tup,m.tup,(e.C0,e.G0,e.O0,e.V0,e.Q1,()),()))=some ((vs,(),(),out++(bif (vs.drop j).any (fun v=>bitC (nbs' b v) e.C0.toNat e.G0) then [Record.mk 2 e.C0 e.G0 0 0] else []),i,()),(b.tup,m.tup,())):=by
  intro k
  induction k with
  | zero=>
   intro j hj;obtain rfl:j=vs.length:=by omega
   refine no' ?_;show ne6' vs out i (vs.length:Int) b.D0 b.E0 b.I0 b.Q0 b.J0 b.K0 b.P0 b.A0 m.F0 m.N0 m.H0 m.B0 e.C0 e.G0 e.O0 e.V0 e.Q1=_;unfold ne6';rw [decide_eq_false (Int.lt_irrefl (vs.length:Int)),List.drop_length];simp only [List.any_nil,cond_false,List.append_nil];rfl
  | succ k ih=>
   intro j hj;have hj':j < vs.length:=by omega
   have hs:ne6' vs out i (j:Int) b.D0 b.E0 b.I0 b.Q0 b.J0 b.K0 b.P0 b.A0 m.F0 m.N0 m.H0 m.B0 e.C0 e.G0 e.O0 e.V0 e.Q1=some (bif bitC (nbs' b (vs.getD j noV)) e.C0.toNat e.G0 then .inr ((vs,(),(),out++[Record.mk 2 e.C0 e.G0 0 0],i,()),(b.tup,m.tup,())) else .inl ((vs,(),(),out,i,(),((j + 1:Nat):Int),()),(b.tup,m.tup,(e.C0,e.G0,e.O0,e.V0,e.Q1,()),()))):=by
    unfold ne6';rw [show View.mk false false false false 0 0 0 0 0 0 0 0=noV from rfl]
    simp only [decide_eq_true (show (j:Int) < (vs.length:Int) by omega),na' (show (0:Int)≤(j:Int) by omega) (show (j:Int) < (vs.length:Int) by omega),cond_true,Int.toNat_natCast,ntq' hb hcode,Option.bind_some,n7v' (n8c' b (vs.getD j noV)) he.1 he.2,wrap1 hj' (show vs.length≤nu' by unfold nu'; omega)]
    rw [nh' (show out.length + [Record.mk 2 e.C0 e.G0 0 0].length≤2147483648 by show out.length + 1≤_; omega)]
    cases bitC (nbs' b (vs.getD j noV)) e.C0.toNat e.G0 <;> rfl
   rw [nba' noV hj',List.any_cons];cases hq:bitC (nbs' b (vs.getD j noV)) e.C0.toNat e.G0 with
   | true=>rw [hq] at hs; exact no' hs
   | false=>rw [hq] at hs; rw [Bool.false_or]; exact (nv' hs).trans (ih (j + 1) (by omega))
 have h:=key vs.length 0 (by omega)
 rw [List.drop_zero] at h;exact ng' h (by omega)
theorem n23':nno' b.D0 b.E0 b.I0 b.Q0 b.J0 b.K0 b.P0 b.A0 m.F0 m.N0 m.H0 m.B0 vs=some ((servL b vs m.B0,()),()):=by
 have hcc:=nn' hcode;have hmx:100000≤maxLen:=by decide
 have hlp:=hm.lp
 have h1:=nz' (step:=fun x=>letI a:=x.2.1.2.2; letI b:=a.2.2; letI c:=x.2.2.1; nfd' x.1.1 x.1.2.2.2.1 x.1.2.2.2.2.1 x.2.1.1 x.2.1.2.1 a.1 a.2.1 b.1 b.2.1 b.2.2.1 b.2.2.2.1 c.1 c.2.1 c.2.2.1 c.2.2.2.1) m.B0.length (fun i (out:List Record)=>((vs,(),(),out,(i:Int),()),(b.tup,m.tup,()))) (fun i out=>out++(bif servB b vs (m.B0.getD i noE).C0 (m.B0.getD i noE).G0 then [Record.mk 2 (m.B0.getD i noE).C0 (m.B0.getD i noE).G0 0 0] else [])) (fun i out=>out.length≤i) (fun out=>((out,()),())) (fun i out hi ho=>by
  have hc:=n30' hb (nc0'.1 (hm.en _ (n5' noE hi))).1;refine ⟨?_,?_⟩
  ·show nfd' vs out (i:Int) b.D0 b.E0 b.I0 b.Q0 b.J0 b.K0 b.P0 b.A0 m.F0 m.N0 m.H0 m.B0=_
   unfold nfd';rw [show Entry.mk 0 0 0 0 false=noE from rfl]
   have hin:=nyh' hb hcode (m:=m) vs hv hc (i:Int) (out:=out) (by omega)
   simp only [Bldg.tup,Img.tup] at hin;simp only [decide_eq_true (show (i:Int) < (m.B0.length:Int) by omega),na' (show (0:Int)≤(i:Int) by omega) (show (i:Int) < (m.B0.length:Int) by omega),cond_true,Int.toNat_natCast,hin,Option.bind_some,wrap1 hi (show m.B0.length≤nu' by unfold nu'; omega)]
   rfl
  ·rw [List.length_append]
   cases servB b vs (m.B0.getD i noE).C0 (m.B0.getD i noE).G0 <;> simp <;> omega) (fun out _=>by
  show nfd' vs out (m.B0.length:Int) b.D0 b.E0 b.I0 b.Q0 b.J0 b.K0 b.P0 b.A0 m.F0 m.N0 m.H0 m.B0=_;unfold nfd';simp only [decide_eq_false (Int.lt_irrefl (m.B0.length:Int)),cond_false]) m.B0.length 0 [] (by omega) (by simp)
 have h1':=ng' h1.1 (by omega)
 rw [ngo',List.nil_append,nla' (fun e=>bif servB b vs e.C0 e.G0 then [Record.mk 2 e.C0 e.G0 0 0] else []) noE m.B0 0 m.B0.length (by omega),List.drop_zero] at h1'
 unfold nno';rw [nbk' hb m (by omega) (by omega),Img.ok_iff.2 hm]
 simp only [Option.bind_some,Bool.not_true,cond_false];rw [show ((vs.length:Int) != (b.A0.length:Int))=false by rw [hv,bne_self_eq_false]]
 simp only [cond_false];simp only [Bldg.tup,Img.tup] at h1';rw [show nkf' ((vs,(),(),([]:List Record),(0:Int),()),((b.D0,b.E0,b.I0,b.Q0,b.J0,b.K0,b.P0,b.A0,()),(m.F0,m.N0,m.H0,m.B0,()),()))=_ from h1']
 rfl
end
def xsV (E:List Entry) (xs:List Int) (r:Record):List Int:=
 bif (r.U0==2)&&hasF (keyE r.C0 r.G0) E then xs.take (posF (keyE r.C0 r.G0) E)++xs.drop (posF (keyE r.C0 r.G0) E + 1)
 else bif (r.U0==1)&&!hasF (keyE r.C0 r.G0) E then xs.take (posF (keyE r.C0 r.G0) E)++[0]++xs.drop (posF (keyE r.C0 r.G0) E)
 else xs
def numK (E:List Entry) (xs:List Int) (F D:Int):Int:=bif hasF (keyE F D) E then xs.getD (posF (keyE F D) E) 0 else 0
def numV (E:List Entry) (xs:List Int) (e:Entry):Int:=numK E xs e.C0 e.G0
theorem n2k' (e:Entry):isC e.C0 e.G0 e=true:=by unfold isC; simp
theorem n65' {E:List Entry} (hs:n8' E) {i:Nat} (hi:i < E.length):posF (E.getD i noE) E=i:=by
 have hp:=nb6'.1 hs;rcases Nat.lt_trichotomy (posF (E.getD i noE) E) i with h | h | h
 ·have h1:=n6j' hs (posF (E.getD i noE) E) (Nat.le_refl _) (by omega)
  have h2:lessE (E.getD (posF (E.getD i noE) E) noE) (E.getD i noE)=true:=by
   generalize posF (E.getD i noE) E=p at h;have hg:∀ j (hj:j < E.length),E.getD j noE=E[j]:=fun j hj=>by simp [List.getD_eq_getElem?_getD,hj]
   rw [hg p (by omega),hg i hi]
   exact List.pairwise_iff_getElem.1 hp p i (by omega) hi h
  rw [h1] at h2; cases h2
 ·exact h
 ·have h1:=n6c' (E.getD i noE) E i h
  have h2:=(nw5' (n2k' (E.getD i noE))).1;rw [h1] at h2; cases h2
theorem nbfb' {E:List Entry} (hs:n8' E) {i:Nat} (hi:i < E.length):hasF (keyE (E.getD i noE).C0 (E.getD i noE).G0) E=true:=by
 unfold hasF;rw [ntg',n65' hs hi,Bool.and_eq_true];exact ⟨Eq.mpr Nat.blt_eq hi,n2k' _⟩
theorem nza' {E:List Entry} (hs:n8' E) (xs:List Int) {i:Nat} (hi:i < E.length):numV E xs (E.getD i noE)=xs.getD i 0:=by
 unfold numV numK;rw [nbfb' hs hi,ntg',n65' hs hi]; rfl
theorem n4d' {α:Type} {a b:List α} (d:α) (hl:a.length=b.length) (h:∀ i,i < a.length→a.getD i d=b.getD i d):a=b:=by
 refine List.ext_getElem hl fun i h1 h2=>?_
 have:=h i h1
 simpa [List.getD_eq_getElem?_getD,h1,h2] using this
theorem n39' {α β:Type} (f:α→β) {l:List α} {i:Nat} (hi:i < l.length) (d:α) (d':β):(l.map f).getD i d'=f (l.getD i d):=by
 simp [List.getD_eq_getElem?_getD,hi]
theorem n67' {E:List Entry} (hs:n8' E) {xs:List Int} (hl:xs.length=E.length):E.map (numV E xs)=xs:=by
 refine n4d' 0 (by rw [List.length_map,hl]) fun i hi=>?_
 rw [List.length_map] at hi;rw [n39' _ hi noE,nza' hs xs hi]
theorem nbd1' {α:Type} {l:List α} {k:Nat} {a:α} (d:α) (h:a=l.getD k d):l.set k a=l:=by
 by_cases hk:k < l.length
 ·refine n4d' d (List.length_set ..) fun i hi=>?_
  by_cases hik:k=i
  ·subst hik
   rw [h]; simp [List.getD_eq_getElem?_getD,hk]
  ·simp [List.getD_eq_getElem?_getD,hik]
 ·rw [List.set_eq_of_length_le (by omega)]
theorem nzt' {c:Entry} {l:List Entry} (h:hasF c l=true):posF c l < l.length∧isC c.C0 c.G0 (l.getD (posF c l) noE)=true:=by
 unfold hasF at h;rw [Bool.and_eq_true] at h;exact ⟨Eq.mp Nat.blt_eq h.1,h.2⟩
theorem nu8' {m:Img} (hs:n8' m.B0) {xs:List Int} (hl:xs.length=m.B0.length) (r:Record):xsV m.B0 xs r=(n4' m r).B0.map (numV m.B0 xs):=by
 have hbase:=n67' hs hl;have hfp:=nkn' (c:=keyE r.C0 r.G0) 0 hs;rw [Nat.zero_add] at hfp;have hfp':findF r.C0 r.G0 m.B0 0=_:=hfp;unfold n4' xsV;by_cases k4:r.U0=4
 ·rw [k4]; exact hbase.symm
 by_cases k5:r.U0=5
 ·rw [k5]; exact hbase.symm
 by_cases k6:r.U0=6
 ·rw [k6]; exact hbase.symm
 rw [beq_f k4,beq_f k5,beq_f k6,hfp'];simp only [cond_false];cases hh:hasF (keyE r.C0 r.G0) m.B0 with
 | false=>
  simp only [cond_false,beq_self_eq_true,cond_true,Bool.and_false,Bool.not_false,Bool.and_true];cases k1:r.U0==1 with
  | false=>exact hbase.symm
  | true=>
   simp only [cond_true];show _=(insL (Entry.mk r.C0 r.G0 (-1) 0 false) false m.B0).map (numV m.B0 xs);have hnone:=nbb2' hs hh;rw [n2p' (c:=Entry.mk r.C0 r.G0 (-1) 0 false) (fun x hx=>hnone x hx)]
   have hp:posF (Entry.mk r.C0 r.G0 (-1) 0 false) m.B0=posF (keyE r.C0 r.G0) m.B0:=(ntg' (Entry.mk r.C0 r.G0 (-1) 0 false) m.B0).symm
   have hn:numV m.B0 xs (Entry.mk r.C0 r.G0 (-1) 0 false)=0:=by
    unfold numV numK;rw [hh]; rfl
   rw [hp,List.map_append,List.map_append,List.map_take,List.map_drop,hbase,List.map_singleton,hn]
 | true=>
  obtain ⟨p1,p2⟩:=nzt' hh;simp only [cond_true,Bool.and_true,Bool.not_true,Bool.and_false,cond_false];rw [beq_f (show ¬ ((posF (keyE r.C0 r.G0) m.B0:Nat):Int)=-1 by omega)]
  simp only [cond_false,Int.toNat_natCast];generalize posF (keyE r.C0 r.G0) m.B0=p at p1 p2 ⊢
  have hset:∀ e':Entry,e'.C0=(m.B0.getD p noE).C0→e'.G0=(m.B0.getD p noE).G0→(m.B0.set p e').map (numV m.B0 xs)=xs:=fun e' h1 h2=>by
   rw [List.map_set,hbase];refine nbd1' 0 ?_
   have:numV m.B0 xs e'=numV m.B0 xs (m.B0.getD p noE):=by
    unfold numV;rw [h1,h2]
   rw [this,nza' hs xs p1]
  cases k2:r.U0==2 with
  | true=>
   simp only [cond_true];show _=(m.B0.take p++m.B0.drop (p + 1)).map (numV m.B0 xs);rw [List.map_append,List.map_take,List.map_drop,hbase]
  | false=>
   simp only [cond_false];cases k3:r.U0==3 with
   | true=>exact (hset (nyk' (m.B0.getD p noE) r.O0) rfl rfl).symm
   | false=>
    simp only [cond_false];cases k7:r.U0==7 with
    | true=>exact (hset (np2' (m.B0.getD p noE) r.U1 r.O0) rfl rfl).symm
    | false=>exact hbase.symm
theorem n7a' {m:Img} (hs:n8' m.B0) {xs:List Int} (hl:xs.length=m.B0.length) (r:Record):(xsV m.B0 xs r).length=(n4' m r).B0.length:=by rw [nu8' hs hl,List.length_map]
theorem n9d' {m:Img} (hs:n8' m.B0) {r:Record} (h1:r.U0 ≠ 1) {e:Entry} (he:e ∈ (n4' m r).B0):∃ e0 ∈ m.B0,e0.C0=e.C0∧e0.G0=e.G0:=by
 have hfp:=nkn' (c:=keyE r.C0 r.G0) 0 hs;rw [Nat.zero_add] at hfp;have hfp':findF r.C0 r.G0 m.B0 0=_:=hfp;unfold n4' at he;by_cases k4:r.U0=4
 ·rw [k4] at he; exact ⟨e,he,rfl,rfl⟩
 by_cases k5:r.U0=5
 ·rw [k5] at he; exact ⟨e,he,rfl,rfl⟩
 by_cases k6:r.U0=6
 ·rw [k6] at he; exact ⟨e,he,rfl,rfl⟩
 rw [beq_f k4,beq_f k5,beq_f k6,hfp',beq_f h1] at he;simp only [cond_false] at he;cases hh:hasF (keyE r.C0 r.G0) m.B0 with
 | false=>
  rw [hh] at he;exact ⟨e,he,rfl,rfl⟩
 | true=>
  obtain ⟨p1,p2⟩:=nzt' hh;rw [hh] at he;simp only [cond_true] at he;rw [beq_f (show ¬ ((posF (keyE r.C0 r.G0) m.B0:Nat):Int)=-1 by omega)] at he
  simp only [cond_false,Int.toNat_natCast] at he
  have hset:∀ e':Entry,e'.C0=(m.B0.getD (posF (keyE r.C0 r.G0) m.B0) noE).C0→e'.G0=(m.B0.getD (posF (keyE r.C0 r.G0) m.B0) noE).G0→e ∈ m.B0.set (posF (keyE r.C0 r.G0) m.B0) e'→∃ e0 ∈ m.B0,e0.C0=e.C0∧e0.G0=e.G0:=fun e' q1 q2 he=>by
   rcases nvi' he with rfl | he
   ·exact ⟨_,n5' noE p1,q1.symm,q2.symm⟩
   ·exact ⟨e,he,rfl,rfl⟩
  cases k2:r.U0==2 with
  | true=>
   rw [k2] at he;have he':e ∈ m.B0.take (posF (keyE r.C0 r.G0) m.B0)++m.B0.drop (posF (keyE r.C0 r.G0) m.B0 + 1):=he;rcases List.mem_append.1 he' with h | h
   ·exact ⟨e,List.mem_of_mem_take h,rfl,rfl⟩
   ·exact ⟨e,List.mem_of_mem_drop h,rfl,rfl⟩
  | false=>
   rw [k2] at he;simp only [cond_false] at he;cases k3:r.U0==3 with
   | true=>rw [k3] at he; exact hset (nyk' (m.B0.getD (posF (keyE r.C0 r.G0) m.B0) noE) r.O0) rfl rfl he
   | false=>
    rw [k3] at he;simp only [cond_false] at he;cases k7:r.U0==7 with
    | true=>rw [k7] at he; exact hset (np2' (m.B0.getD (posF (keyE r.C0 r.G0) m.B0) noE) r.U1 r.O0) rfl rfl he
    | false=>rw [k7] at he; exact ⟨e,he,rfl,rfl⟩
def xsL:Img→List Int→List Record→List Int
 | _,xs,[]=>xs
 | m,xs,r :: t=>xsL (n4' m r) (xsV m.B0 xs r) t
theorem nbgm' {E:List Entry} (hs:n8' E) (f:Entry→Int) (hf:∀ e e':Entry,e.C0=e'.C0→e.G0=e'.G0→f e=f e') {e:Entry} (he:∃ e0 ∈ E,e0.C0=e.C0∧e0.G0=e.G0):numV E (E.map f) e=f e:=by
 obtain ⟨e0,h0,h1,h2⟩:=he;obtain ⟨i,hi,rfl⟩:=List.getElem_of_mem h0;have hg:E.getD i noE=E[i]:=by simp [List.getD_eq_getElem?_getD,hi]
 have h:=nza' hs (E.map f) hi;rw [n39' f hi noE,hg] at h
 have e1:numV E (E.map f) e=numV E (E.map f) E[i]:=by
  unfold numV;rw [h1,h2]
 rw [e1,h];exact hf _ _ h1 h2
theorem nyp' {b:Bldg}:∀ {l:List Record} {m:Img},ImgOK b m→(∀ r ∈ l,np' b r=true∧r.U0 ≠ 1)→∀ {e:Entry},e ∈ (nbc' m l).B0→∃ e0 ∈ m.B0,e0.C0=e.C0∧e0.G0=e.G0
 | [],_,_,_,e,he=>⟨e,he,rfl,rfl⟩
 | r :: t,m,hm,hv,e,he=>by
  have h0:=hv r (List.mem_cons_self ..);obtain ⟨e1,h1,h2,h3⟩:=nyp' (ngq' hm h0.1).1 (fun x hx=>hv x (List.mem_cons_of_mem _ hx)) (show e ∈ (nbc' (n4' m r) t).B0 from he)
  obtain ⟨e2,h4,h5,h6⟩:=n9d' hm.so h0.2 h1;exact ⟨e2,h4,by rw [h5,h2],by rw [h6,h3]⟩
theorem nt3' {b:Bldg}:∀ {l:List Record} {m:Img} {xs:List Int},ImgOK b m→xs.length=m.B0.length→(∀ r ∈ l,np' b r=true∧r.U0 ≠ 1)→xsL m xs l=(nbc' m l).B0.map (numV m.B0 xs)
 | [],m,xs,hm,hl,_=>(n67' hm.so hl).symm
 | r :: t,m,xs,hm,hl,hv=>by
  have h0:=hv r (List.mem_cons_self ..);have hm1:=(ngq' hm h0.1).1;have ht:=fun x hx=>hv x (List.mem_cons_of_mem _ hx)
  show xsL (n4' m r) (xsV m.B0 xs r) t=(nbc' (n4' m r) t).B0.map (numV m.B0 xs);rw [nt3' hm1 (n7a' hm.so hl r) ht,nu8' hm.so hl];refine List.map_congr_left fun e he=>?_
  exact nbgm' hm1.so (numV m.B0 xs) (fun e e' h1 h2=>by unfold numV; rw [h1,h2]) (nyp' hm1 ht he)
structure Rnd where
 recs:List Record
 img:Img
 xs:List Int
 lan:Lan
 ref:Int×Int
def Rnd.tup (r:Rnd):List Record×List Int×List Bool×List Bool×List Entry×List Int×List Calls×List Bool×Int×Int×Int×Int×Unit:=(r.recs,r.img.F0,r.img.N0,r.img.H0,r.img.B0,r.xs,r.lan.lit,r.lan.gong,r.lan.cl.1,r.lan.cl.2,r.ref.1,r.ref.2,())
def Rnd.tupB (b:Bldg) (r:Rnd):List Record×List Int×List Bool×List Bool×List Entry×List Int×List Calls×List Bool×Int×Int×Int×Int×Int×Int×Int×Int×Nat×Nat×Nat×List Car×Unit:=(r.recs,r.img.F0,r.img.N0,r.img.H0,r.img.B0,r.xs,r.lan.lit,r.lan.gong,r.lan.cl.1,r.lan.cl.2,r.ref.1,r.ref.2,b.D0,b.E0,b.I0,b.Q0,b.J0,b.K0,b.P0,b.A0,())
structure Rnd.ok (b:Bldg) (r:Rnd):Prop where
 img:ImgOK b r.img
 len:r.xs.length=r.img.B0.length
def noRec:Record:=Record.mk 0 0 0 0 0
def stepW (r:Record) (X:Rnd):Rnd:=⟨X.recs++[r],n4' X.img r,xsV X.img.B0 X.xs r,X.lan,X.ref⟩
def wrL (l:List Record) (X:Rnd):Rnd:=⟨X.recs++l,nbc' X.img l,xsL X.img X.xs l,X.lan,X.ref⟩
theorem n3c' (r:Record) (l:List Record) (X:Rnd):wrL (r :: l) X=wrL l (stepW r X):=by
 unfold wrL stepW;simp only [List.append_assoc,List.singleton_append];rfl
theorem n3p' {b:Bldg} {X:Rnd} (h:X.ok b) {r:Record} (hv:np' b r=true):(stepW r X).ok b:=⟨(ngq' h.img hv).1,n7a' h.img.so h.len r⟩
theorem nxv' {b:Bldg}:∀ {l:List Record} {X:Rnd},X.ok b→(∀ r ∈ l,np' b r=true)→(wrL l X).ok b
 | [],X,h,_=>by
  unfold wrL;rw [List.append_nil];exact ⟨h.img,h.len⟩
 | r :: t,X,h,hv=>by
  rw [n3c'];exact nxv' (n3p' h (hv r (List.mem_cons_self ..))) fun x hx=>hv x (List.mem_cons_of_mem _ hx)
section
variable {b:Bldg} (hb:b.small) (hcode:b.code=0)
include hb hcode
omit hcode in
theorem nbf' {m:Img} (hm:ImgOK b m):m.B0.length≤14:=by
 have:=nbex' hb hm
 have:=hb.hi
 omega
end
theorem nuh' {F D:Int} {e:Entry} (he:isC F D e=true) (T:List Entry):∀ (P:List Entry) (i:Nat),(∀ p ∈ P,isC F D p=false)→findF F D (P++e :: T) i=((i + P.length:Nat):Int)
 | [],i,_=>by simp only [List.nil_append,findF,he,cond_true,List.length_nil,Nat.add_zero]
 | p :: P,i,h=>by
  simp only [List.cons_append,findF,h p (List.mem_cons_self ..),cond_false];rw [nuh' he T P (i + 1) fun x hx=>h x (List.mem_cons_of_mem _ hx),List.length_cons]
  congr 1; omega
theorem n7w' {P T:List Entry} {e:Entry} (h:n8' (P++e :: T)):∀ p ∈ P,isC e.C0 e.G0 p=false:=by
 intro p hp;rw [nb6'] at h;have h2:=(List.pairwise_append.1 h).2.2 p hp e (List.mem_cons_self ..);rw [nei'] at h2;unfold isC;simp only [Bool.and_eq_false_iff,beq_eq_false_iff_ne];omega
theorem n29' (P T:List Entry) (e:Entry):(P++e :: T).getD P.length noE=e:=by
 simp [List.getD_eq_getElem?_getD]
theorem callC (e:Entry):isC e.C0 e.G0 e=true:=by unfold isC; simp
theorem n4x' {m:Img} {P T:List Entry} {e:Entry} (hE:m.B0=P++e :: T) (hs:∀ p ∈ P,isC e.C0 e.G0 p=false) (n c:Int):n4' m ⟨7,e.C0,e.G0,c,n⟩=m.put (P++np2' e n c :: T):=by
 unfold n4';have hf:findF e.C0 e.G0 m.B0 0=(P.length:Int):=by rw [hE,nuh' (callC e) T P 0 hs,Nat.zero_add]
 simp only [hf];rw [beq_f (show ¬ (P.length:Int)=-1 by omega),hE,Int.toNat_natCast,n29',nvf',nvf']
 rfl
theorem n0k' {m:Img} {P T:List Entry} {e:Entry} (hE:m.B0=P++e :: T) (hs:∀ p ∈ P,isC e.C0 e.G0 p=false) (c:Int):n4' m ⟨3,e.C0,e.G0,c,0⟩=m.put (P++nyk' e c :: T):=by
 unfold n4';have hf:findF e.C0 e.G0 m.B0 0=(P.length:Int):=by rw [hE,nuh' (callC e) T P 0 hs,Nat.zero_add]
 simp only [hf];rw [beq_f (show ¬ (P.length:Int)=-1 by omega),hE,Int.toNat_natCast,n29',nvf',nvf']
 rfl
theorem Img.put_put (m:Img) (l l':List Entry):(m.put l).put l'=m.put l':=rfl
theorem Img.put_self (m:Img):m.put m.B0=m:=rfl
theorem n7j' {m:Img} {P T:List Entry} {e n:Entry} (hE:m.B0=P++e :: T) (hs:∀ p ∈ P,isC e.C0 e.G0 p=false) (hF:n.C0=e.C0) (hD:n.G0=e.G0):nbc' m (recsV e n)=m.put (P++n :: T):=by
 obtain ⟨nF,nD,nC,nM,nV⟩:=n;obtain ⟨eF,eD,eC,eM,eV⟩:=e;simp only at hF hD;subst hF hD;unfold recsV;simp only;have mv:∀ c:Int,np2' ⟨nF,nD,eC,eM,eV⟩ nM c=⟨nF,nD,eC,nM,c==1⟩:=fun _=>rfl
 have cv:((bif nV then (1:Int) else 0)==1)=nV:=by cases nV <;> rfl
 cases hp:(eM != nM||!(eV==nV)) with
 | true=>
  have h1:=n4x' hE hs nM (bif nV then 1 else 0);rw [mv,cv] at h1;cases hq:eC != nC with
  | true=>
   have h2:=n0k' (m:=m.put (P++⟨nF,nD,eC,nM,nV⟩ :: T)) (P:=P) (T:=T) (e:=⟨nF,nD,eC,nM,nV⟩) rfl hs nC;simp only [cond_true,List.cons_append,List.nil_append,nbc'];rw [h1,h2]; rfl
  | false=>
   have:eC=nC:=by simpa [bne] using hq
   subst this;simp only [cond_true,cond_false,List.append_nil,nbc'];exact h1
 | false=>
  simp only [Bool.or_eq_false_iff,Bool.not_eq_false',bne_eq_false_iff_eq,beq_iff_eq] at hp;obtain ⟨rfl,rfl⟩:=hp;cases hq:eC != nC with
  | true=>
   have h2:=n0k' hE hs nC;simp only [cond_true,cond_false,List.nil_append,nbc'];exact h2
  | false=>
   have:eC=nC:=by simpa [bne] using hq
   subst this;simp only [cond_false,List.append_nil,nbc'];rw [← hE]; exact (Img.put_self m).symm
theorem n7q' {b:Bldg} {e n:Entry} (hcode:b.code=0) (hcall:nk' b n.C0 n.G0=true) (hc:-2≤n.O0∧n.O0 < (b.A0.length:Int)) (hm:0≤n.V0∧n.V0≤255):∀ r ∈ recsV e n,np' b r=true:=by
 intro r hr;unfold recsV at hr;rcases List.mem_append.1 hr with h | h
 ·cases hp:(e.V0 != n.V0||!(e.Q1==n.Q1)) with
  | false=>rw [hp] at h; cases h
  | true=>
   rw [hp] at h;rw [List.mem_singleton.1 h];unfold np';rw [hcode,hcall,ns'.2 hm];cases n.Q1 <;> rfl
 ·cases hp:e.O0 != n.O0 with
  | false=>rw [hp] at h; cases h
  | true=>
   rw [hp] at h;rw [List.mem_singleton.1 h];unfold np';rw [hcode,hcall,ns'.2 ⟨hc.1,show n.O0≤(b.A0.length:Int) - 1 by omega⟩]
   rfl
noncomputable def decL (b:Bldg) (vs:List View):List Entry→List Int→List Entry
 | e :: t,x :: xs=>decV b vs e x :: decL b vs t xs
 | _,_=>[]
theorem n8j' {b:Bldg} (hc:b.A0.length≤100) {vs:List View} {e:Entry} (hm:0≤e.V0∧e.V0≤255) (x:Int):0≤(decV b vs e x).V0∧(decV b vs e x).V0≤255:=by
 unfold decV;cases e.O0==-2 with
 | true=>exact hm
 | false=>
  cases e.O0==-1 with
  | true=>exact hm
  | false=>
   cases (nl' vs e.O0).J3 with
   | true=>
    by_cases g:(b.A0.length:Int) < e.V0
    ·rw [decide_eq_true g]; exact hm
    ·rw [decide_eq_false g]; exact ⟨by show 0≤e.V0 + 1; omega,by show e.V0 + 1≤255; omega⟩
   | false=>
    by_cases g:e.V0≤(b.A0.length:Int)
    ·rw [decide_eq_true g]
     cases e.Q1 with
     | true=>exact hm
     | false=>
      cases nhe' b vs e x != -1 with
      | true=>exact ⟨by show 0≤e.V0 + 1; omega,by show e.V0 + 1≤255; omega⟩
      | false=>exact hm
    ·rw [decide_eq_false g,Bool.and_false]; exact hm
theorem ny4' {b:Bldg} (hc:b.A0.length≤100) {vs:List View} (hlen:(vs.length:Int)=(b.A0.length:Int)):∀ (T:List Entry) (xs:List Int) (P:List Entry) (m:Img),xs.length=T.length→ImgOK b m→m.B0=P++T→nbc' m (planR b vs T xs)=m.put (P++decL b vs T xs)∧(∀ r ∈ planR b vs T xs,np' b r=true)∧ImgOK b (m.put (P++decL b vs T xs))
 | [],xs,P,m,_,hm,hE=>by
  have:decL b vs [] xs=[]:=by simp [decL]
  have h2:planR b vs [] xs=[]:=by simp [planR]
  rw [this,h2,← hE];exact ⟨rfl,(fun _ h=>by cases h),hm⟩
 | _ :: _,[],_,_,h,_,_=>by simp at h
 | e :: T,x :: xs,P,m,h,hm,hE=>by
  have hent:=nc0'.1 (hm.en e (by rw [hE]; simp))
  have hso:=hm.so;rw [hE] at hso;have hs:=n7w' hso;obtain ⟨c1,c2⟩:=n0b' b vs e x;have hin:=n7e' b (vs:=vs) (e:=e) (by omega) x
  have hmv:=n8j' hc (vs:=vs) hent.2.2 x;have hval:=n7q' (b:=b) (e:=e) (n:=decV b vs e x) hm.code (by rw [c1,c2]; exact hent.1) (by omega) hmv
  have hap:=n7j' hE hs c1 c2
  have hok:ImgOK b (m.put (P++decV b vs e x :: T)):=by
   rw [← hap]; exact (nq8' hm hval).1
  obtain ⟨g1,g2,g3⟩:=ny4' hc hlen T xs (P++[decV b vs e x]) (m.put (P++decV b vs e x :: T)) (by simpa using h) hok (by simp [Img.put])
  simp only [planR,decL]
  have app:∀ (rs qs:List Record) (m:Img),nbc' m (rs++qs)=nbc' (nbc' m rs) qs:=fun rs=>by
   induction rs with
   | nil=>intro _ _; rfl
   | cons r rs ih=>intro qs m; exact ih qs (n4' m r)
  rw [app,hap,g1,Img.put_put];rw [Img.put_put] at g3;simp only [List.append_assoc,List.singleton_append] at g3 ⊢
  exact ⟨trivial,(fun r hr=>by
   rcases List.mem_append.1 hr with hr | hr
   ·exact hval r hr
   ·exact g2 r hr),g3⟩
def regR (e:Entry):Record:=Record.mk 1 e.C0 e.G0 0 0
def stepG (b:Bldg) (e:Entry) (X:Rnd):Rnd:=bif roomV b X.img then stepW (regR e) X else ⟨X.recs,X.img,X.xs,X.lan,n1' X.ref (oneC e.C0 e.G0)⟩
def regL (b:Bldg):List Entry→Rnd→Rnd
 | [],X=>X
 | e :: t,X=>regL b t (stepG b e X)
theorem nbgt' (r:Record) (X:Rnd):wrL [r] X=stepW r X:=by
 rw [n3c'];unfold wrL;rw [List.append_nil];rfl
theorem nz6' {b:Bldg} {e:Entry} (h:nk' b e.C0 e.G0=true):np' b (regR e)=true:=by
 have hc:(b.code==0)=true:=by
  unfold nk' at h;rw [Bool.and_eq_true] at h;exact h.1
 unfold np' regR;rw [hc];simp only [beq_self_eq_true,cond_true,h,Bool.and_self]
theorem n3a' {b:Bldg} {X:Rnd} (h:X.ok b) {e:Entry} (he:nk' b e.C0 e.G0=true):(stepG b e X).ok b:=by
 unfold stepG;cases roomV b X.img with
 | true=>exact n3p' h (nz6' he)
 | false=>exact ⟨h.img,h.len⟩
theorem n53' {b:Bldg}:∀ {l:List Entry} {X:Rnd},X.ok b→(∀ e ∈ l,nk' b e.C0 e.G0=true)→(regL b l X).ok b
 | [],_,h,_=>h
 | e :: t,X,h,hv=>by
  show (regL b t (stepG b e X)).ok b;exact n53' (n3a' h (hv e (List.mem_cons_self ..))) fun x hx=>hv x (List.mem_cons_of_mem _ hx)
theorem n7h' (b:Bldg) (e:Entry) (X:Rnd):(stepG b e X).recs.length≤X.recs.length + 1:=by
 unfold stepG;cases roomV b X.img with
 | true=>show (X.recs++[_]).length≤_; rw [List.length_append,List.length_singleton]; exact Nat.le_refl _
 | false=>exact Nat.le_succ _
theorem nu1' (b:Bldg):∀ (l:List Entry) (X:Rnd),(regL b l X).recs.length≤X.recs.length + l.length
 | [],_=>Nat.le_refl _
 | e :: t,X=>by
  have h1:=nu1' b t (stepG b e X);have h2:=n7h' b e X;show (regL b t (stepG b e X)).recs.length≤_;rw [List.length_cons];omega
theorem n1b' (c:Int×Int):(listC c).length≤64:=by
 have h:∀ k i:Nat,((List.range' i k).flatMap (ncf' c)).length≤2 * k:=by
  intro k
  induction k with
  | zero=>intro i; exact Nat.le_refl _
  | succ k ih=>
   intro i;rw [List.range'_succ,List.flatMap_cons,List.length_append]
   have:=ih (i + 1)
   have:=nsy' c i
   omega
 exact h 32 0
theorem n08' {c:Int×Int} {e:Entry} (h:e ∈ listC c):(0≤e.C0∧e.C0 < 32)∧(e.G0=1∨e.G0=2)∧bitC c e.C0.toNat e.G0=true:=by
 obtain ⟨f,h1,h2,h3,h4⟩:=mem_range.1 (List.mem_map.2 ⟨e,h,rfl⟩);simp only [nc6'] at h2 h3 h4;refine ⟨by omega,h3,?_⟩
 rw [h2,Int.toNat_natCast]; exact h4
def nw8' (b:Bldg) (m:Img) (press:Int×Int):Int×Int:=nr' (bothC press (hallC b)) (ofC m.B0 (0,0))
theorem n8d' {b:Bldg} (hb:b.small) (hcode:b.code=0) {press old:Int×Int} {e:Entry} (h:e ∈ listC (nr' (bothC press (hallC b)) old)):nk' b e.C0 e.G0=true:=by
 obtain ⟨h1,h2,h3⟩:=n08' h;rw [nbi' _ _ (by omega),nel',Bool.and_eq_true,Bool.and_eq_true,nsu' hb hcode (by omega) h2,Int.toNat_of_nonneg h1.1] at h3
 exact h3.1.2
section
variable {b:Bldg} (hb:b.small) (hcode:b.code=0)
include hb hcode
end
theorem nbhm' {α:Type} (l:List α) (h:l.length≤100000):cloF l=some ((l,()),()):=by
 unfold cloF;rw [nh' (show l.length≤2147483648 by omega)]; rfl
def darkV (n:Nat):Lan:=⟨List.replicate n noP,List.replicate n false,(0,0)⟩
def tickX (b:Bldg) (m:Img) (xs:List Int) (vs:List View) (ps:List Calls) (press:Int×Int) (good:Bool):Rnd:=
 bif good then regL b (listC (nw8' b m press)) (wrL (servL b vs m.B0) ⟨[],m,xs,njp' b vs ps,(0,0)⟩) else ⟨[],m,xs,darkV vs.length,(0,0)⟩
noncomputable def tickP (b:Bldg) (m:Img) (xs:List Int) (vs:List View) (ps:List Calls) (press:Int×Int) (good:Bool):List Record×List Int×Int×Unit:=planV b (tickX b m xs vs ps press good).img (tickX b m xs vs ps press good).xs vs
noncomputable def tickV (b:Bldg) (m:Img) (xs:List Int) (vs:List View) (ps:List Calls) (press:Int×Int) (good:Bool):Rnd:={ wrL (tickP b m xs vs ps press good).1 (tickX b m xs vs ps press good) with xs:=(tickP b m xs vs ps press good).2.1 }
theorem nv1' {b:Bldg} (hcode:b.code=0) (vs:List View):∀ {l:List Entry},(∀ e ∈ l,nk' b e.C0 e.G0=true)→∀ r ∈ servL b vs l,np' b r=true∧r.U0=2:=fun h r hr=>by
 obtain ⟨e,he,hr⟩:=List.mem_flatMap.1 hr;have hc:=h e he;cases hs:servB b vs e.C0 e.G0 with
 | false=>rw [hs] at hr; cases hr
 | true=>
  rw [hs] at hr;rw [List.mem_singleton.1 hr];refine ⟨?_,rfl⟩;unfold np';rw [hcode];simp only [show ((2:Int)==1)=false from rfl,cond_false,beq_self_eq_true,cond_true,hc,Bool.and_self]
theorem n44' {b:Bldg} (hcode:b.code=0) {vs:List View} {m:Img} (hm:ImgOK b m) (xs:List Int):∀ r ∈ (planV b m xs vs).1,np' b r=true:=by
 have hcc:=nn' hcode;unfold planV;rw [Img.ok_iff.2 hm];cases hq:((xs.length:Int)==(m.B0.length:Int)) with
 | false=>exact fun r hr=>by cases hr
 | true=>
  cases hv:((vs.length:Int)==(b.A0.length:Int)) with
  | false=>exact fun r hr=>by cases hr
  | true=>
   cases expOK xs with
   | false=>exact fun r hr=>by cases hr
   | true=>
    have h1:(xs.length:Int)=(m.B0.length:Int):=by simpa using hq
    have h2:(vs.length:Int)=(b.A0.length:Int):=by simpa using hv
    exact (ny4' (b:=b) (by omega) h2 m.B0 xs [] m (by omega) hm rfl).2.1
section
variable {b:Bldg} (hb:b.small) (hcode:b.code=0) {m:Img} (hm:ImgOK b m) {xs:List Int} (hx:xs.length=m.B0.length) {vs:List View} (ps:List Calls) (press:Int×Int) (good:Bool)
include hb hcode hm hx
theorem nwm':(tickX b m xs vs ps press good).ok b∧(tickX b m xs vs ps press good).recs.length≤100:=by
 have he:=nbf' hb hm;have hX:∀ L:Lan,Rnd.ok b ⟨[],m,xs,L,(0,0)⟩:=fun L=>⟨hm,hx⟩
 unfold tickX;cases good with
 | false=>exact ⟨hX _,Nat.zero_le _⟩
 | true=>
  have hv:=nv1' hcode vs (l:=m.B0) fun e he=>(nc0'.1 (hm.en e he)).1
  refine ⟨n53' (nxv' (hX _) fun r hr=>(hv r hr).1) fun e he=>n8d' hb hcode he,?_⟩
  have h1:=nu1' b (listC (nw8' b m press)) (wrL (servL b vs m.B0) ⟨[],m,xs,njp' b vs ps,(0,0)⟩);have h2:=n1b' (nw8' b m press);have h3:=nup' b vs m.B0;have h4:(wrL (servL b vs m.B0) ⟨[],m,xs,njp' b vs ps,(0,0)⟩).recs.length=(servL b vs m.B0).length:=rfl;show (regL b (listC (nw8' b m press)) (wrL (servL b vs m.B0) ⟨[],m,xs,njp' b vs ps,(0,0)⟩)).recs.length≤100;omega
end
theorem u8r.bif {p:Bool} {a b:Int} (ha:u8r a) (hb:u8r b):u8r (bif p then a else b):=by cases p <;> assumption
structure Made (b:Bldg) (vs:List View):Prop where
 len:vs.length=b.A0.length
 ok:okViews vs
 lost:∀ v ∈ vs,v.J3=true→v.J2=false
 flo:∀ v ∈ vs,-1≤v.C0∧v.C0 < b.D0
theorem nw7' {b:Bldg} {vs:List View} {floor dir except:Int}:∀ (m i:Nat) (best:Int),i + m=vs.length →
  (best=-1∧(∀ j:Nat,j < i→(nl' vs j).J2=true→(j:Int)=except)∨(0≤best∧best < vs.length∧(nl' vs best).J2=true∧best ≠ except)) →
  (bestF b vs floor dir except m i best=-1∧(∀ j:Nat,j < vs.length→(nl' vs j).J2=true→(j:Int)=except))∨(0≤bestF b vs floor dir except m i best∧bestF b vs floor dir except m i best < vs.length∧(nl' vs (bestF b vs floor dir except m i best)).J2=true∧bestF b vs floor dir except m i best ≠ except)
 | 0,i,best,hi,h=>by
  rcases h with ⟨h1,h2⟩ | h
  ·exact .inl ⟨h1,fun j hj=>h2 j (by omega)⟩
  ·exact .inr h
 | m + 1,i,best,hi,h=>by
  refine nw7' m (i + 1) _ (by omega) ?_
  unfold nmn';cases hr:(nl' vs (i:Int)).J2 with
  | false=>
   rcases h with ⟨h1,h2⟩ | h
   ·refine .inl ⟨h1,fun j hj hj'=>?_⟩
    rcases Nat.lt_or_ge j i with hlt | hge
    ·exact h2 j hlt hj'
    ·have:j=i:=by omega
     subst this; rw [hr] at hj'; cases hj'
   ·exact .inr h
  | true=>
   rw [Bool.not_true,Bool.false_or];by_cases he:(i:Int)=except
   ·rw [show ((i:Int)==except)=true by rw [he]; simp,cond_true]
    rcases h with ⟨h1,h2⟩ | h
    ·refine .inl ⟨h1,fun j hj hj'=>?_⟩
     rcases Nat.lt_or_ge j i with hlt | hge
     ·exact h2 j hlt hj'
     ·have:j=i:=by omega
      subst this; exact he
    ·exact .inr h
   ·rw [beq_f he,cond_false]
    cases hb:(best==-1||betB (rankV b vs floor dir i) (rankV b vs floor dir best)) with
    | true=>exact .inr ⟨by show (0:Int)≤(i:Int); omega,by show (i:Int) < _; omega,hr,he⟩
    | false=>
     rcases h with ⟨h1,h2⟩ | h
     ·rw [h1] at hb; cases hb
     ·exact .inr h
theorem n4c' {b:Bldg} {vs:List View} (hcode:b.code=0) (hlen:(vs.length:Int)=(b.A0.length:Int)) (floor dir except:Int) :
  (nbm' b vs floor dir except=-1∧(∀ j:Nat,j < vs.length→(nl' vs j).J2=true→(j:Int)=except))∨(0≤nbm' b vs floor dir except∧nbm' b vs floor dir except < vs.length∧(nl' vs (nbm' b vs floor dir except)).J2=true∧nbm' b vs floor dir except ≠ except):=by
 unfold nbm';have e1:((vs.length:Int) != (b.A0.length:Int))=false:=by rw [hlen]; simp
 rw [hcode,e1];exact nw7' vs.length 0 (-1) (by omega) (.inl ⟨rfl,fun j hj=>by omega⟩)
def njj' (vs:List View):Nat:=vs.countP (·.J2)
theorem ns3':∀ {vs:List View},(∀ j:Nat,j < vs.length→(nl' vs j).J2=false)→njj' vs=0
 | [],_=>rfl
 | v :: t,h=>by
  have h0:v.J2=false:=h 0 (by simp)
  have ht:=ns3' (vs:=t) fun j hj=>h (j + 1) (by simp; omega)
  unfold njj' at *;rw [List.countP_cons_of_neg (by rw [h0]; simp)]; exact ht
theorem n1c':∀ {vs:List View} (o e:Int),(∀ j:Nat,j < vs.length→(nl' vs j).J2=true→o + j=e)→njj' vs≤1
 | [],_,_,_=>by simp [njj']
 | v :: t,o,e,h=>by
  cases hv:v.J2 with
  | true=>
   have h0:o + ((0:Nat):Int)=e:=h 0 (by simp) hv
   have ht:=ns3' (vs:=t) fun j hj=>by
    cases hr:(nl' t j).J2 with
    | false=>rfl
    | true=>have:=h (j + 1) (by simp; omega) hr; omega
   unfold njj' at *;rw [List.countP_cons_of_pos (by rw [hv])]; omega
  | false=>
   have ht:=n1c' (vs:=t) (o + 1) e fun j hj hr=>by have:=h (j + 1) (by simp; omega) hr; omega
   unfold njj' at *;rw [List.countP_cons_of_neg (by rw [hv]; simp)]; exact ht
structure Plan22 (b:Bldg) (m:Img) (vs:List View) (xs:List Int):Prop where
 small:b.small
 code:b.code=0
 cars:1≤b.A0.length∧b.A0.length≤3
 img:ImgOK b m
 ents:m.B0.length≤60
 made:Made b vs
 xlen:xs.length=m.B0.length
 xval:∀ x ∈ xs,0≤x∧x≤1000000
structure MadeW (b:Bldg) (vs:List View):Prop where
 len:vs.length=b.A0.length
 ok:okViews vs
structure PlanW (b:Bldg) (m:Img) (vs:List View) (xs:List Int):Prop where
 small:b.small
 code:b.code=0
 cars:1≤b.A0.length∧b.A0.length≤3
 img:ImgOK b m
 made:MadeW b vs
 xlen:xs.length=m.B0.length
 xval:∀ x ∈ xs,0≤x∧x≤1000000
theorem PlanW.exp {b:Bldg} {m:Img} {vs:List View} {xs:List Int} (h:PlanW b m vs xs):expOK xs=true:=List.all_eq_true.2 fun x hx=>ns'.2 (h.xval x hx)
section
variable {b:Bldg} {m:Img} {vs:List View} {xs:List Int} (h:Plan22 b m vs xs)
include h
theorem Plan22.vlen:(vs.length:Int)=(b.A0.length:Int):=by have:=h.made.len; omega
theorem Plan22.notLost {i:Int} (hi:0≤i∧i < vs.length) (hr:(nl' vs i).J2=true):(nl' vs i).J3=false:=by
 cases hl:(nl' vs i).J3 with
 | false=>rfl
 | true=>
  have:=h.made.lost (nl' vs i) (n5' _ (show i.toNat < vs.length by omega)) hl
  rw [this] at hr; cases hr
theorem Plan22.car {e:Entry} (_he:-2≤e.O0∧e.O0 < (vs.length:Int)) (x:Int) :
  (0≤(decV b vs e x).O0→(nl' vs (decV b vs e x).O0).J3=false) ∧
  (0≤(decV b vs e x).O0→(decV b vs e x).O0 ≠ e.O0→(nl' vs (decV b vs e x).O0).J2=true) ∧
  (e.O0=-2→(decV b vs e x).O0=-2) ∧
  ((decV b vs e x).O0=-1→(e.O0=-1→njj' vs=0)∧(0≤e.O0→njj' vs≤1)):=by
 have key:∀ n except:Int,n=nbm' b vs e.C0 e.G0 except→(0≤n→(nl' vs n).J3=false)∧(0≤n→(nl' vs n).J2=true)∧(n=-1→(∀ j:Nat,j < vs.length→(nl' vs j).J2=true→(j:Int)=except))∧n ≠ -2:=fun n except hn=>by
  rcases n4c' h.code h.vlen e.C0 e.G0 except with ⟨h1,h2⟩ | ⟨h1,h2,h3,_⟩
  ·rw [← hn] at h1
   exact ⟨fun _=>by omega,fun _=>by omega,fun _=>h2,by omega⟩
  ·rw [← hn] at h1 h2 h3
   exact ⟨fun _=>h.notLost ⟨h1,h2⟩ h3,fun _=>h3,fun _=>by omega,by omega⟩
 unfold decV;by_cases g1:e.O0=-2
 ·rw [show (e.O0==-2)=true by rw [g1]; rfl,cond_true]
  exact ⟨fun _=>by omega,fun _ hh=>absurd rfl hh,fun _=>g1,fun _=>by omega⟩
 rw [beq_f g1,cond_false];by_cases g2:e.O0=-1
 ·rw [show (e.O0==-1)=true by rw [g2]; rfl,cond_true]
  obtain ⟨k1,k2,k3,k4⟩:=key _ (-1) rfl;refine ⟨k1,fun hh _=>k2 hh,fun hh=>absurd hh g1,fun hh=>⟨fun _=>ns3' fun j hj=>?_,fun _=>by omega⟩⟩
  cases hr:(nl' vs j).J2 with
  | false=>rfl
  | true=>have:=k3 hh j hj hr; omega
 rw [beq_f g2,cond_false];cases hlost:(nl' vs e.O0).J3 with
 | true=>
  rw [cond_true];cases decide ((b.A0.length:Int) < e.V0) with
  | true=>exact ⟨fun hh=>absurd hh (by show ¬ (0:Int)≤-2; omega),fun hh=>absurd hh (by show ¬ (0:Int)≤-2; omega),fun hh=>absurd hh g1,fun hh=>absurd hh (by show ¬ (-2:Int)=-1; omega)⟩
  | false=>
   obtain ⟨k1,k2,k3,k4⟩:=key _ e.O0 rfl;exact ⟨k1,fun hh _=>k2 hh,fun hh=>absurd hh g1,fun hh=>⟨fun hh'=>absurd hh' g2,fun _=>n1c' 0 e.O0 fun j hj hr=>by have:=k3 hh j hj hr; omega⟩⟩
 | false=>
  rw [cond_false]
  have self:(0≤e.O0→(nl' vs e.O0).J3=false)∧(0≤e.O0→e.O0 ≠ e.O0→(nl' vs e.O0).J2=true)∧(e.O0=-2→e.O0=-2)∧(e.O0=-1→(e.O0=-1→njj' vs=0)∧(0≤e.O0→njj' vs≤1)):=
   ⟨fun _=>hlost,fun _ hh=>absurd rfl hh,fun hh=>hh,fun hh=>absurd hh g2⟩
  cases (!e.Q1&&decide (e.V0≤(b.A0.length:Int))) with
  | false=>exact self
  | true=>
   rw [cond_true];cases ho:nhe' b vs e x != -1 with
   | false=>exact self
   | true=>
    have hne:nhe' b vs e x ≠ -1:=by simpa using ho
    have heq:nhe' b vs e x=nbm' b vs e.C0 e.G0 e.O0:=by
     unfold nhe' at hne ⊢;cases hc:nbm' b vs e.C0 e.G0 e.O0==-1 with
     | true=>rw [hc] at hne; exact absurd rfl hne
     | false=>
      rw [hc] at hne;cases hbt:nvd' b vs e x (nbm' b vs e.C0 e.G0 e.O0) with
      | true=>rfl
      | false=>rw [hbt] at hne; exact absurd rfl hne
    obtain ⟨k1,k2,k3,k4⟩:=key _ e.O0 heq;exact ⟨k1,fun hh _=>k2 hh,fun hh=>absurd hh g1,fun hh=>absurd hh hne⟩
end
end Go.Ovl
