/- Which cars are chosen (layer 22), and the frame of the laws on plans. -/
import Derived.Test.YthdomhdippmaiaaGreatDoorOvE
namespace Go.Ovl
open Go Go.Ab
set_option maxRecDepth 100000
theorem nqt' {b:Bldg} {vs:List View} {floor dir except:Int}:∀ (m i:Nat) (best:Int),i + m=vs.length →
  (best=-1∧(∀ j:Nat,j < i→(ne' vs j).Ready=true→(j:Int)=except)∨(0≤best∧best < vs.length∧(ne' vs best).Ready=true∧best ≠ except)) →
  (bestF b vs floor dir except m i best=-1∧(∀ j:Nat,j < vs.length→(ne' vs j).Ready=true→(j:Int)=except))∨(0≤bestF b vs floor dir except m i best∧bestF b vs floor dir except m i best < vs.length∧(ne' vs (bestF b vs floor dir except m i best)).Ready=true∧bestF b vs floor dir except m i best ≠ except)
 | 0,i,best,hi,h=>by
  rcases h with ⟨h1,h2⟩ | h
  ·exact .inl ⟨h1,fun j hj=>h2 j (by omega)⟩
  ·exact .inr h
 | m + 1,i,best,hi,h=>by
  refine nqt' m (i + 1) _ (by omega) ?_
  unfold ngz'
  cases hr:(ne' vs (i:Int)).Ready with
  | false=>
   rcases h with ⟨h1,h2⟩ | h
   ·refine .inl ⟨h1,fun j hj hj'=>?_⟩
    rcases Nat.lt_or_ge j i with hlt | hge
    ·exact h2 j hlt hj'
    ·have:j=i:=by omega
     subst this; rw [hr] at hj'; cases hj'
   ·exact .inr h
  | true=>
   rw [Bool.not_true,Bool.false_or]
   by_cases he:(i:Int)=except
   ·rw [show ((i:Int)==except)=true by rw [he]; simp,cond_true]
    rcases h with ⟨h1,h2⟩ | h
    ·refine .inl ⟨h1,fun j hj hj'=>?_⟩
     rcases Nat.lt_or_ge j i with hlt | hge
     ·exact h2 j hlt hj'
     ·have:j=i:=by omega
      subst this; exact he
    ·exact .inr h
   ·rw [beq_f he,cond_false]
    cases hb:(best==-1||betB (rankV b vs floor dir i) (rankV b vs floor dir best)) with
    | true=>exact .inr ⟨by show (0:Int)≤(i:Int); omega,by show (i:Int) < _; omega,hr,he⟩
    | false=>
     rcases h with ⟨h1,h2⟩ | h
     ·rw [h1] at hb; cases hb
     ·exact .inr h
theorem nuj' {b:Bldg} {vs:List View} (hcode:b.code=0) (hlen:(vs.length:Int)=(b.Cars.length:Int)) (floor dir except:Int) :
  (nb0' b vs floor dir except=-1∧(∀ j:Nat,j < vs.length→(ne' vs j).Ready=true→(j:Int)=except))∨(0≤nb0' b vs floor dir except∧nb0' b vs floor dir except < vs.length∧(ne' vs (nb0' b vs floor dir except)).Ready=true∧nb0' b vs floor dir except ≠ except):=by
 unfold nb0'
 have e1:((vs.length:Int) != (b.Cars.length:Int))=false:=by rw [hlen]; simp
 rw [hcode,e1]
 exact nqt' vs.length 0 (-1) (by omega) (.inl ⟨rfl,fun j hj=>by omega⟩)
def nhc' (vs:List View):Nat:=vs.countP (·.Ready)
theorem nmx':∀ {vs:List View},(∀ j:Nat,j < vs.length→(ne' vs j).Ready=false)→nhc' vs=0
 | [],_=>rfl
 | v :: t,h=>by
  have h0:v.Ready=false:=h 0 (by simp)
  have ht:=nmx' (vs:=t) fun j hj=>h (j + 1) (by simp; omega)
  unfold nhc' at *
  rw [List.countP_cons_of_neg (by rw [h0]; simp)]; exact ht
theorem nsk':∀ {vs:List View} (o e:Int),(∀ j:Nat,j < vs.length→(ne' vs j).Ready=true→o + j=e)→nhc' vs≤1
 | [],_,_,_=>by simp [nhc']
 | v :: t,o,e,h=>by
  cases hv:v.Ready with
  | true=>
   have h0:o + ((0:Nat):Int)=e:=h 0 (by simp) hv
   have ht:=nmx' (vs:=t) fun j hj=>by
    cases hr:(ne' t j).Ready with
    | false=>rfl
    | true=>have:=h (j + 1) (by simp; omega) hr; omega
   unfold nhc' at *
   rw [List.countP_cons_of_pos (by rw [hv])]; omega
  | false=>
   have ht:=nsk' (vs:=t) (o + 1) e fun j hj hr=>by have:=h (j + 1) (by simp; omega) hr; omega
   unfold nhc' at *
   rw [List.countP_cons_of_neg (by rw [hv]; simp)]; exact ht
structure Plan22 (b:Bldg) (m:Img) (vs:List View) (xs:List Int):Prop where
 small:b.small
 code:b.code=0
 cars:1≤b.Cars.length∧b.Cars.length≤3
 img:ImgOK b m
 ents:m.Entries.length≤60
 made:Made b vs
 xlen:xs.length=m.Entries.length
 xval:∀ x ∈ xs,0≤x∧x≤1000000
section
variable {b:Bldg} {m:Img} {vs:List View} {xs:List Int} (h:Plan22 b m vs xs)
include h
theorem Plan22.vlen:(vs.length:Int)=(b.Cars.length:Int):=by have:=h.made.len; omega
theorem Plan22.notLost {i:Int} (hi:0≤i∧i < vs.length) (hr:(ne' vs i).Ready=true):(ne' vs i).Lost=false:=by
 cases hl:(ne' vs i).Lost with
 | false=>rfl
 | true=>
  have:=h.made.lost (ne' vs i) (ndg' _ (show i.toNat < vs.length by omega)) hl
  rw [this] at hr; cases hr
theorem Plan22.car {e:Entry} (_he:-2≤e.Car∧e.Car < (vs.length:Int)) (x:Int) :
  (0≤(decV b vs e x).Car→(ne' vs (decV b vs e x).Car).Lost=false) ∧
  (0≤(decV b vs e x).Car→(decV b vs e x).Car ≠ e.Car→(ne' vs (decV b vs e x).Car).Ready=true) ∧
  (e.Car=-2→(decV b vs e x).Car=-2) ∧
  ((decV b vs e x).Car=-1→(e.Car=-1→nhc' vs=0)∧(0≤e.Car→nhc' vs≤1)):=by
 have key:∀ n except:Int,n=nb0' b vs e.Floor e.Dir except→(0≤n→(ne' vs n).Lost=false)∧(0≤n→(ne' vs n).Ready=true)∧(n=-1→(∀ j:Nat,j < vs.length→(ne' vs j).Ready=true→(j:Int)=except))∧n ≠ -2:=fun n except hn=>by
  rcases nuj' h.code h.vlen e.Floor e.Dir except with ⟨h1,h2⟩ | ⟨h1,h2,h3,_⟩
  ·rw [← hn] at h1
   exact ⟨fun _=>by omega,fun _=>by omega,fun _=>h2,by omega⟩
  ·rw [← hn] at h1 h2 h3
   exact ⟨fun _=>h.notLost ⟨h1,h2⟩ h3,fun _=>h3,fun _=>by omega,by omega⟩
 unfold decV
 by_cases g1:e.Car=-2
 ·rw [show (e.Car==-2)=true by rw [g1]; rfl,cond_true]
  exact ⟨fun _=>by omega,fun _ hh=>absurd rfl hh,fun _=>g1,fun _=>by omega⟩
 rw [beq_f g1,cond_false]
 by_cases g2:e.Car=-1
 ·rw [show (e.Car==-1)=true by rw [g2]; rfl,cond_true]
  obtain ⟨k1,k2,k3,k4⟩:=key _ (-1) rfl
  refine ⟨k1,fun hh _=>k2 hh,fun hh=>absurd hh g1,fun hh=>⟨fun _=>nmx' fun j hj=>?_,fun _=>by omega⟩⟩
  cases hr:(ne' vs j).Ready with
  | false=>rfl
  | true=>have:=k3 hh j hj hr; omega
 rw [beq_f g2,cond_false]
 cases hlost:(ne' vs e.Car).Lost with
 | true=>
  rw [cond_true]
  cases decide ((b.Cars.length:Int) < e.Moves) with
  | true=>exact ⟨fun hh=>absurd hh (by show ¬ (0:Int)≤-2; omega),fun hh=>absurd hh (by show ¬ (0:Int)≤-2; omega),fun hh=>absurd hh g1,fun hh=>absurd hh (by show ¬ (-2:Int)=-1; omega)⟩
  | false=>
   obtain ⟨k1,k2,k3,k4⟩:=key _ e.Car rfl
   exact ⟨k1,fun hh _=>k2 hh,fun hh=>absurd hh g1,fun hh=>⟨fun hh'=>absurd hh' g2,fun _=>nsk' 0 e.Car fun j hj hr=>by have:=k3 hh j hj hr; omega⟩⟩
 | false=>
  rw [cond_false]
  have self:(0≤e.Car→(ne' vs e.Car).Lost=false)∧(0≤e.Car→e.Car ≠ e.Car→(ne' vs e.Car).Ready=true)∧(e.Car=-2→e.Car=-2)∧(e.Car=-1→(e.Car=-1→nhc' vs=0)∧(0≤e.Car→nhc' vs≤1)):=
   ⟨fun _=>hlost,fun _ hh=>absurd rfl hh,fun hh=>hh,fun hh=>absurd hh g2⟩
  cases (!e.Moved&&decide (e.Moves≤(b.Cars.length:Int))) with
  | false=>exact self
  | true=>
   rw [cond_true]
   cases ho:neu' b vs e x != -1 with
   | false=>exact self
   | true=>
    have hne:neu' b vs e x ≠ -1:=by simpa using ho
    have heq:neu' b vs e x=nb0' b vs e.Floor e.Dir e.Car:=by
     unfold neu' at hne ⊢
     cases hc:nb0' b vs e.Floor e.Dir e.Car==-1 with
     | true=>rw [hc] at hne; exact absurd rfl hne
     | false=>
      rw [hc] at hne
      cases hbt:not' b vs e x (nb0' b vs e.Floor e.Dir e.Car) with
      | true=>rfl
      | false=>rw [hbt] at hne; exact absurd rfl hne
    obtain ⟨k1,k2,k3,k4⟩:=key _ e.Car heq
    exact ⟨k1,fun hh _=>k2 hh,fun hh=>absurd hh g1,fun hh=>absurd hh hne⟩
end
end Go.Ovl
namespace Go.Ovl
open Go Go.Ab
set_option maxRecDepth 100000
theorem n21':ng7'=some ((true,()),()):=by kernel_rfl
theorem npw' {X Y:Type} {step:X→Option (Sum X Y)} (N:Nat) (g:Nat→X) (y:Y) (h1:∀ i,i < N→step (g i)=some (.inl (g (i + 1)))) (h2:step (g N)=some (.inr y)):∀ m i:Nat,i + m=N→iter step (m + 1) (g i)=some y
 | 0,i,hi=>by
  obtain rfl:i=N:=by omega
  exact nr' h2
 | m + 1,i,hi=>(ny' (h1 i (by omega))).trans (npw' N g y h1 h2 m (i + 1) (by omega))
theorem n4y' (F D:Int):∃ c:Int×Int,nhy' F D=some (((),()),((c.1,c.2,()),())):=⟨oneC F D,nx7' F D⟩
def setV (vs:List View) (i:Nat) (c:Int×Int):List View:=vs.set i (View.mk (vs.getD i noV).Ready (vs.getD i noV).Serving (vs.getD i noV).Legacy (vs.getD i noV).Lost (vs.getD i noV).Floor (vs.getD i noV).Dir (vs.getD i noV).Load c.1 c.2 (vs.getD i noV).Stops_Car (vs.getD i noV).Stops_Hall_Up (vs.getD i noV).Stops_Hall_Down)
theorem npr' (vs:List View) (i:Nat) (c:Int×Int):(setV vs i c).length=vs.length:=List.length_set ..
theorem n1g' {b:Bldg} {vs:List View} (h:Made b vs) {i:Nat} (hi:i < vs.length) (c:Int×Int):Made b (setV vs i c):=by
 have hm:=ndg' noV hi
 refine ⟨by rw [npr']; exact h.len,fun v hv=>?_,fun v hv hl=>?_,fun v hv=>?_⟩
 ·rcases niq' hv with rfl | hv
  ·obtain ⟨q1,q2,q3⟩:=h.ok _ hm
   exact ⟨q1,q2,q3⟩
  ·exact h.ok v hv
 ·rcases niq' hv with rfl | hv
  ·exact h.lost (vs.getD i noV) hm hl
  ·exact h.lost v hv hl
 ·rcases niq' hv with rfl | hv
  ·exact h.flo (vs.getD i noV) hm
  ·exact h.flo v hv
theorem nsg' {b:Bldg} (hb:b.small) (hc:b.Cars.length≤8) {l:List Int} (hl:∀ e ∈ l,u8r e) (hlen:l.length≤maxLen) :
  ∃ vs:List View,ngf' b.Floors b.Debounce b.Room b.Park b.Empty b.Full b.Over b.Cars l=some ((vs,()),())∧Made b vs:=by
 have lo:=hb.lo
 have hi8:=hb.hi
 obtain ⟨v0,hV,hM⟩:=nrr' hb hc hl hlen
 have h:=nmq' (step:=fun x=>nce' x.1.1 x.1.2.2.1 x.1.2.2.2.1 x.2.1.1 x.2.1.2.1 x.2.1.2.2.1 x.2.1.2.2.2.1 x.2.1.2.2.2.2.1 x.2.1.2.2.2.2.2.1 x.2.1.2.2.2.2.2.2.1 x.2.1.2.2.2.2.2.2.2.1) (fun x=>∃ (i:Nat) (v:List View),x=((l,(),v,(i:Int),()),(b.tup,()))∧i≤v.length∧Made b v) (fun y=>∃ v:List View,y=((v,()),())∧Made b v) (fun x=>(x.1.2.2.1.length:Int).toNat - x.1.2.2.2.1.toNat) (by
  rintro x ⟨i,v,rfl,hi,hm⟩
  have hvl:=hm.len
  by_cases g:i < v.length
  ·by_cases g2:i < l.length
   ·have he:=hl _ (ndg' 0 g2)
    unfold u8r at he
    have hw:=wrap1 g (show v.length≤nby' by unfold nby'; omega)
    cases hz:Int.tmod (l.getD i 0) 3==0 with
    | true=>
     obtain ⟨c,ho⟩:=n4y' (Int.tmod (IntKind.i64.wrap (Int.tdiv (IntKind.i64.wrap (l.getD i 0)) 3)) b.Floors) (IntKind.i64.wrap (1 + IntKind.i64.wrap (Int.tmod (IntKind.u8.wrap (Int.tdiv (l.getD i 0) 64)) 2)))
     refine .inl ⟨((l,(),setV v i c,((i + 1:Nat):Int),()),(b.tup,())),?_,⟨i + 1,_,rfl,by rw [npr']; omega,n1g' hm g c⟩,?_⟩
     ·show nce' l v (i:Int) b.Floors b.Debounce b.Room b.Park b.Empty b.Full b.Over b.Cars=_
      unfold nce'
      rw [show View.mk false false false false 0 0 0 0 0 0 0 0=noV from rfl]
      simp only [decide_eq_true (show (i:Int) < (v.length:Int) by omega),decide_eq_true (show (i:Int) < (l.length:Int) by omega),nd' (show (0:Int)≤(i:Int) by omega) (show (i:Int) < (l.length:Int) by omega),nd' (show (0:Int)≤(i:Int) by omega) (show (i:Int) < (v.length:Int) by omega),cond_true,Int.toNat_natCast,hz,bne_t (show ¬ b.Floors=0 by omega),ho,Option.bind_some,hw]
      rfl
     ·show ((setV v i c).length:Int).toNat - ((i + 1:Nat):Int).toNat < (v.length:Int).toNat - (i:Int).toNat
      rw [npr']; omega
    | false=>
     refine .inl ⟨((l,(),v,((i + 1:Nat):Int),()),(b.tup,())),?_,⟨i + 1,v,rfl,by omega,hm⟩,?_⟩
     ·show nce' l v (i:Int) b.Floors b.Debounce b.Room b.Park b.Empty b.Full b.Over b.Cars=_
      unfold nce'
      simp only [decide_eq_true (show (i:Int) < (v.length:Int) by omega),decide_eq_true (show (i:Int) < (l.length:Int) by omega),nd' (show (0:Int)≤(i:Int) by omega) (show (i:Int) < (l.length:Int) by omega),cond_true,cond_false,Int.toNat_natCast,hz,hw]
      rfl
     ·show (v.length:Int).toNat - ((i + 1:Nat):Int).toNat < (v.length:Int).toNat - (i:Int).toNat
      omega
   ·refine .inr ⟨_,?_,v,rfl,hm⟩
    show nce' l v (i:Int) b.Floors b.Debounce b.Room b.Park b.Empty b.Full b.Over b.Cars=_
    unfold nce'
    simp only [decide_eq_true (show (i:Int) < (v.length:Int) by omega),decide_eq_false (show ¬ (i:Int) < (l.length:Int) by omega),cond_true,cond_false]
  ·refine .inr ⟨_,?_,v,rfl,hm⟩
   show nce' l v (i:Int) b.Floors b.Debounce b.Room b.Park b.Empty b.Full b.Over b.Cars=_
   unfold nce'
   simp only [decide_eq_false (show ¬ (i:Int) < (v.length:Int) by omega),cond_false]) (x:=((l,(),v0,(0:Int),()),(b.tup,()))) ⟨0,v0,rfl,by omega,hM⟩ (by
   show (v0.length:Int).toNat - (0:Int).toNat < _
   have:=hM.len
   omega)
 obtain ⟨y,h1,v,rfl,hm⟩:=h
 refine ⟨v,?_,hm⟩
 unfold ngf'
 rw [hV]
 simp only [Option.bind_some]
 rw [show nhr' ((l,(),v0,(0:Int),()),((b.Floors,b.Debounce,b.Room,b.Park,b.Empty,b.Full,b.Over,b.Cars,()),()))=_ from h1]
 rfl
theorem np3' (m:Img) (hml:m.Entries.length≤1000) {l:List Int} (hl:∀ e ∈ l,u8r e) :
  ∃ xs:List Int,nes' m.Phases m.Flags m.Leaving m.Entries l=some ((xs,()),())∧xs.length=m.Entries.length∧∀ x ∈ xs,0≤x∧x≤4:=by
 have h:=nmq' (step:=fun x=>nch' x.1.1 x.1.2.1 x.1.2.2.1) (fun x=>∃ (i:Nat) (v:List Int),x=((l,v,(i:Int),()),())∧i≤v.length∧v.length=m.Entries.length∧∀ x ∈ v,0≤x∧x≤4) (fun y=>∃ v:List Int,y=((v,()),())∧v.length=m.Entries.length∧∀ x ∈ v,0≤x∧x≤4) (fun x=>(x.1.2.1.length:Int).toNat - x.1.2.2.1.toNat) (by
  rintro x ⟨i,v,rfl,hi,hvl,hm⟩
  by_cases g:i < v.length
  ·by_cases g2:i < l.length
   ·have he:=hl _ (ndg' 0 g2)
    unfold u8r at he
    have hw:=wrap1 g (show v.length≤nby' by unfold nby'; omega)
    have h5:0≤Int.tmod (l.getD i 0) 5∧Int.tmod (l.getD i 0) 5≤4:=by
     have h1:=Int.tmod_nonneg 5 he.1
     have h2:=Int.tmod_lt_of_pos (l.getD i 0) (show (0:Int) < 5 by omega)
     omega
    refine .inl ⟨((l,v.set i (Int.tmod (l.getD i 0) 5),((i + 1:Nat):Int),()),()),?_,⟨i + 1,_,rfl,by rw [List.length_set]; omega,by rw [List.length_set]; exact hvl,fun x hx=>?_⟩,?_⟩
    ·show nch' l v (i:Int)=_
     unfold nch'
     simp only [decide_eq_true (show (i:Int) < (v.length:Int) by omega),decide_eq_true (show (i:Int) < (l.length:Int) by omega),nd' (show (0:Int)≤(i:Int) by omega) (show (i:Int) < (l.length:Int) by omega),nd' (show (0:Int)≤(i:Int) by omega) (show (i:Int) < (v.length:Int) by omega),cond_true,Int.toNat_natCast,hw,nb' (n:=Int.tmod (l.getD i 0) 5) (by omega) (by omega)]
    ·rcases niq' hx with rfl | hx
     ·exact h5
     ·exact hm x hx
    ·show ((v.set i _).length:Int).toNat - ((i + 1:Nat):Int).toNat < (v.length:Int).toNat - (i:Int).toNat
     rw [List.length_set]; omega
   ·refine .inr ⟨_,?_,v,rfl,hvl,hm⟩
    show nch' l v (i:Int)=_
    unfold nch'
    simp only [decide_eq_true (show (i:Int) < (v.length:Int) by omega),decide_eq_false (show ¬ (i:Int) < (l.length:Int) by omega),cond_true,cond_false]
  ·refine .inr ⟨_,?_,v,rfl,hvl,hm⟩
   show nch' l v (i:Int)=_
   unfold nch'
   simp only [decide_eq_false (show ¬ (i:Int) < (v.length:Int) by omega),cond_false]) (x:=((l,List.replicate m.Entries.length 0,(0:Int),()),())) ⟨0,_,rfl,Nat.zero_le _,List.length_replicate,fun x hx=>by rw [List.eq_of_mem_replicate hx]; omega⟩ (by
   show ((List.replicate m.Entries.length (0:Int)).length:Int).toNat - (0:Int).toNat < _
   rw [List.length_replicate]; omega)
 obtain ⟨y,h1,v,rfl,hvl,hm⟩:=h
 refine ⟨v,?_,hvl,hm⟩
 unfold nes'
 simp only [decide_eq_true (show (0:Int)≤(m.Entries.length:Int) by omega),decide_eq_true (Int.le_refl (m.Entries.length:Int)),decide_eq_true (show (m.Entries.length:Int)≤2147483648 by omega),Int.toNat_natCast,Bool.and_self,cond_true]
 rw [show ngl' ((l,List.replicate m.Entries.length (0:Int),(0:Int),()),())=_ from h1]
 rfl
theorem n45' {n0 n1:Int} (h0:0≤n0∧n0 < 256) (h1:0≤n1∧n1 < 256) {l k:List Int} (h_l:l.length≤maxLen∧∀ e ∈ l,(0≤e∧e < 256)) (h_k:k.length≤maxLen∧∀ e ∈ k,(0≤e∧e < 256)) :
  ∃ (b:Bldg) (m:Img) (vs:List View) (xs:List Int),ncr' n0 n1=some (((),()),(b.tup,()))∧ngd' b.Floors b.Debounce b.Room b.Park b.Empty b.Full b.Over b.Cars l=some (((),()),(m.tup,()))∧ngf' b.Floors b.Debounce b.Room b.Park b.Empty b.Full b.Over b.Cars k=some ((vs,()),())∧nes' m.Phases m.Flags m.Leaving m.Entries k=some ((xs,()),())∧Plan22 b m vs xs:=by
 obtain ⟨fl,ca,f1,f2,c1,c2,hB⟩:=now' h0 (room:=n1) (by omega)
 have hs:(bld10 fl ca n1).small:=⟨by show (2:Int)≤(fl:Int); omega,by show (fl:Int)≤8; omega⟩
 have hc:(bld10 fl ca n1).Cars.length=ca:=by simp [bld10,nbk']
 have hcode:(bld10 fl ca n1).code=0:=nx4' f1 f2 c1 c2 (by omega)
 obtain ⟨m,hI,hm,hml⟩:=nrt' hs hcode (by omega) h_l.2
 obtain ⟨vs,hV,hM⟩:=nsg' hs (by omega) h_k.2 h_k.1
 have hme:=ng4' hs hm
 obtain ⟨xs,hX,hxl,hxs⟩:=np3' m (by omega) h_k.2
 refine ⟨bld10 fl ca n1,m,vs,xs,hB,hI,hV,hX,⟨hs,hcode,by omega,hm,by omega,hM,hxl,fun x hx=>?_⟩⟩
 have:=hxs x hx
 omega
theorem Plan22.exp {b:Bldg} {m:Img} {vs:List View} {xs:List Int} (h:Plan22 b m vs xs):expOK xs=true:=List.all_eq_true.2 fun x hx=>n4'.2 (h.xval x hx)
theorem Plan22.tick {b:Bldg} {m:Img} {vs:List View} {xs:List Int} (h:Plan22 b m vs xs) {ps:List Calls} (hp:ps.length=b.Cars.length) (press:Int×Int) (good:Bool):nbw' b.Floors b.Debounce b.Room b.Park b.Empty b.Full b.Over b.Cars m.Phases m.Flags m.Leaving m.Entries xs vs ps press.1 press.2 good=some (((),0,()),((tickV b m xs vs ps press good).tup,())):=
 npk' h.small h.code h.img h.xlen ps press good h.exp h.made.ok h.made.len hp
theorem nxx' {α:Type} {c:Bool} {a r:α} (h:r ∈ (bif c then [a] else [])):r=a:=by
 cases c with
 | true=>exact List.mem_singleton.1 h
 | false=>cases h
theorem nrj' (b:Bldg) (vs:List View):∀ (l:List Entry) (xs:List Int),∀ r ∈ planR b vs l xs,r.Kind=3∨r.Kind=7
 | [],xs,r,hr=>by simp [planR] at hr
 | _ :: _,[],r,hr=>by simp [planR] at hr
 | e :: t,x :: xs,r,hr=>by
  simp only [planR] at hr
  rcases List.mem_append.1 hr with h | h
  ·unfold recsV at h
   rcases List.mem_append.1 h with h | h
   ·right; rw [nxx' h]
   ·left; rw [nxx' h]
  ·exact nrj' b vs t xs r h
theorem ny6' (b:Bldg) (m:Img) (xs:List Int) (vs:List View):∀ r ∈ (planV b m xs vs).1,r.Kind=3∨r.Kind=7:=by
 unfold planV
 cases m.ok b&&((xs.length:Int)==(m.Entries.length:Int)&&((vs.length:Int)==(b.Cars.length:Int)&&expOK xs)) with
 | true=>exact nrj' b vs m.Entries xs
 | false=>exact fun r hr=>by cases hr
end Go.Ovl
namespace Go.Ovl
open Go Go.Ab
set_option maxRecDepth 100000
theorem nqv' (c_N_0:Int) (c_N_1:Int) (c_L:List (Int)) (c_K:List (Int)) (c_Press_Up:Int) (c_Press_Down:Int) (h_c_N_0:0≤c_N_0∧c_N_0 < 256) (h_c_N_1:0≤c_N_1∧c_N_1 < 256) (h_c_L:c_L.length≤maxLen∧∀ e ∈ c_L,(0≤e∧e < 256)) (h_c_K:c_K.length≤maxLen∧∀ e ∈ c_K,(0≤e∧e < 256)) (_h_c_Press_Up:0≤c_Press_Up∧c_Press_Up < 4294967296) (_h_c_Press_Down:0≤c_Press_Down∧c_Press_Down < 4294967296):F_l24_DispatchBad c_N_0 c_N_1 c_L c_K c_Press_Up c_Press_Down=some ((true,()),()):=by
 obtain ⟨b,m,vs,xs,hB,hI,hV,hX,h⟩:=n45' h_c_N_0 h_c_N_1 h_c_L h_c_K
 have hcc:=h.cars
 have hvl:=h.made.len
 have hme:=h.ents
 have ht:=h.tick (ps:=List.replicate b.Cars.length noP) List.length_replicate (c_Press_Up,c_Press_Down) false
 have hpl:=(ntj' b m xs vs).1
 have e0:tickV b m xs vs (List.replicate b.Cars.length noP) (c_Press_Up,c_Press_Down) false=⟨(planV b m xs vs).1,ndd' m (planV b m xs vs).1,(planV b m xs vs).2.1,darkV vs.length,(0,0)⟩:=rfl
 rw [e0] at ht
 have hk:=ny6' b m xs vs
 generalize (planV b m xs vs).1=rs at hk hpl ht
 generalize ndd' m rs=m' at ht
 generalize (planV b m xs vs).2.1=xs' at ht
 unfold F_l24_DispatchBad
 rw [hB]
 simp only [Option.bind_some,Bldg.tup]
 rw [hI]
 simp only [Option.bind_some,Img.tup]
 rw [hX]
 simp only [Option.bind_some]
 rw [hV]
 simp only [Option.bind_some,decide_eq_true (show (0:Int)≤(b.Cars.length:Int) by omega),decide_eq_true (Int.le_refl (b.Cars.length:Int)),decide_eq_true (show (b.Cars.length:Int)≤2147483648 by omega),Bool.and_self,cond_true,Int.toNat_natCast]
 rw [show nbw' b.Floors b.Debounce b.Room b.Park b.Empty b.Full b.Over b.Cars m.Phases m.Flags m.Leaving m.Entries xs vs (List.replicate b.Cars.length (Calls.mk 0 0)) c_Press_Up c_Press_Down false=_ from ht]
 let R:Rnd:=⟨rs,m',xs',darkV vs.length,(0,0)⟩
 have l0:nde' (((),(),(0:Int),()),(b.tup,R.tup,()))=some (.inl (((),()),(R.tup,()))):=by
  refine nx' (npw' (step:=fun x=>ncj' x.1.2.2.1 x.2.1.1 x.2.1.2.1 x.2.1.2.2.1 x.2.1.2.2.2.1 x.2.1.2.2.2.2.1 x.2.1.2.2.2.2.2.1 x.2.1.2.2.2.2.2.2.1 x.2.1.2.2.2.2.2.2.2.1 x.2.2.1.1 x.2.2.1.2.1 x.2.2.1.2.2.1 x.2.2.1.2.2.2.1 x.2.2.1.2.2.2.2.1 x.2.2.1.2.2.2.2.2.1 x.2.2.1.2.2.2.2.2.2.1 x.2.2.1.2.2.2.2.2.2.2.1 x.2.2.1.2.2.2.2.2.2.2.2.1 x.2.2.1.2.2.2.2.2.2.2.2.2.1 x.2.2.1.2.2.2.2.2.2.2.2.2.2.1 x.2.2.1.2.2.2.2.2.2.2.2.2.2.2.1) b.Cars.length (fun i=>(((),(),(i:Int),()),(b.tup,R.tup,()))) (Sum.inl (((),()),(R.tup,()))) (fun i hi=>?_) ?_ b.Cars.length 0 (by omega)) (by omega)
  ·show ncj' (i:Int) b.Floors b.Debounce b.Room b.Park b.Empty b.Full b.Over b.Cars R.recs R.img.Phases R.img.Flags R.img.Leaving R.img.Entries R.xs R.lan.lit R.lan.gong R.lan.cl.1 R.lan.cl.2 R.ref.1 R.ref.2=_
   unfold ncj'
   have hl:R.lan.lit.length=b.Cars.length:=by show (List.replicate _ _).length=_; rw [List.length_replicate,hvl]
   have hg:R.lan.gong.length=b.Cars.length:=by show (List.replicate _ _).length=_; rw [List.length_replicate,hvl]
   have q1:R.lan.lit.getD i (Calls.mk 0 0)=noP:=by
    show (List.replicate _ _).getD i noP=_
    rw [List.getD_eq_getElem?_getD,List.getElem?_replicate]
    split <;> rfl
   have q2:R.lan.gong.getD i false=false:=by
    show (List.replicate _ _).getD i false=_
    rw [List.getD_eq_getElem?_getD,List.getElem?_replicate]
    split <;> rfl
   simp only [decide_eq_true (show (i:Int) < (b.Cars.length:Int) by omega),nd' (show (0:Int)≤(i:Int) by omega) (show (i:Int) < (R.lan.lit.length:Int) by omega),nd' (show (0:Int)≤(i:Int) by omega) (show (i:Int) < (R.lan.gong.length:Int) by omega),cond_true,Int.toNat_natCast,q1,q2,wrap1 hi (show b.Cars.length≤nby' by unfold nby'; omega)]
   rfl
  ·show ncj' (b.Cars.length:Int) b.Floors b.Debounce b.Room b.Park b.Empty b.Full b.Over b.Cars R.recs R.img.Phases R.img.Flags R.img.Leaving R.img.Entries R.xs R.lan.lit R.lan.gong R.lan.cl.1 R.lan.cl.2 R.ref.1 R.ref.2=_
   unfold ncj'
   simp only [decide_eq_false (Int.lt_irrefl (b.Cars.length:Int)),cond_false]
   rfl
 have l1:ndc' (((),(0:Int),()),(R.tup,()))=some (.inl ((),())):=by
  refine nx' (npw' (step:=fun x=>nck' x.1.2.1 x.2.1.1 x.2.1.2.1 x.2.1.2.2.1 x.2.1.2.2.2.1 x.2.1.2.2.2.2.1 x.2.1.2.2.2.2.2.1 x.2.1.2.2.2.2.2.2.1 x.2.1.2.2.2.2.2.2.2.1 x.2.1.2.2.2.2.2.2.2.2.1 x.2.1.2.2.2.2.2.2.2.2.2.1 x.2.1.2.2.2.2.2.2.2.2.2.2.1 x.2.1.2.2.2.2.2.2.2.2.2.2.2.1) rs.length (fun i=>(((),(i:Int),()),(R.tup,()))) (Sum.inl ((),())) (fun i hi=>?_) ?_ rs.length 0 (by omega)) (by omega)
  ·show nck' (i:Int) R.recs R.img.Phases R.img.Flags R.img.Leaving R.img.Entries R.xs R.lan.lit R.lan.gong R.lan.cl.1 R.lan.cl.2 R.ref.1 R.ref.2=_
   unfold nck'
   have hkk:=hk _ (ndg' noRec hi)
   rw [show R.recs=rs from rfl,show Record.mk 0 0 0 0 0=noRec from rfl]
   simp only [decide_eq_true (show (i:Int) < (rs.length:Int) by omega),nd' (show (0:Int)≤(i:Int) by omega) (show (i:Int) < (rs.length:Int) by omega),cond_true,Int.toNat_natCast]
   rcases hkk with hkk | hkk
   ·simp only [hkk,bne_self_eq_false,cond_false,Option.bind_some,wrap1 hi (show rs.length≤nby' by unfold nby'; omega)]
    rfl
   ·simp only [hkk,show ((7:Int) != 3)=true from rfl,cond_true,bne_self_eq_false,cond_false,Option.bind_some,wrap1 hi (show rs.length≤nby' by unfold nby'; omega)]
    rfl
  ·show nck' (rs.length:Int) R.recs R.img.Phases R.img.Flags R.img.Leaving R.img.Entries R.xs R.lan.lit R.lan.gong R.lan.cl.1 R.lan.cl.2 R.ref.1 R.ref.2=_
   unfold nck'
   rw [show R.recs=rs from rfl]
   simp only [decide_eq_false (Int.lt_irrefl (rs.length:Int)),cond_false]
 simp only [Bldg.tup,Rnd.tup,R] at l0 l1
 simp only [Option.bind_some,bne_self_eq_false,cond_false,Rnd.tup]
 rw [show (darkV vs.length).lit.length=b.Cars.length by show (List.replicate _ _).length=_; rw [List.length_replicate,hvl],show (darkV vs.length).gong.length=b.Cars.length by show (List.replicate _ _).length=_; rw [List.length_replicate,hvl]]
 simp only [bne_self_eq_false,cond_false,show (darkV vs.length).cl=(0,0) from rfl,beq_self_eq_true,Bool.and_self,Bool.not_true]
 simp only [show (darkV vs.length).cl=(0,0) from rfl] at l0 l1
 rw [l0]
 simp only [Option.bind_some]
 rw [l1]
 simp only [Option.bind_some,n21']
end Go.Ovl
