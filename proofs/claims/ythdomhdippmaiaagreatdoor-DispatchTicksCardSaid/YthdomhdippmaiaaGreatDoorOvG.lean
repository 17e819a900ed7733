/- Which cars are chosen (layer 22), and the frame of the laws on plans. -/
import Derived.Test.YthdomhdippmaiaaGreatDoorOvF
import Derived.Test.YthdomhdippmaiaaGreatDoorOvC
namespace Go.Ovl
open Go Go.Ab
set_option maxRecDepth 100000
theorem nt8' {b:Bldg} {vs:List View} {floor dir except:Int}:∀ (m i:Nat) (best:Int),i + m=vs.length →
  (best=-1∧(∀ j:Nat,j < i→(nd' vs j).Ready=true→(j:Int)=except)∨(0≤best∧best < vs.length∧(nd' vs best).Ready=true∧best ≠ except)) →
  (bestF b vs floor dir except m i best=-1∧(∀ j:Nat,j < vs.length→(nd' vs j).Ready=true→(j:Int)=except))∨(0≤bestF b vs floor dir except m i best∧bestF b vs floor dir except m i best < vs.length∧(nd' vs (bestF b vs floor dir except m i best)).Ready=true∧bestF b vs floor dir except m i best ≠ except)
 | 0,i,best,hi,h=>by
  rcases h with ⟨h1,h2⟩ | h
  ·exact .inl ⟨h1,fun j hj=>h2 j (by omega)⟩
  ·exact .inr h
 | m + 1,i,best,hi,h=>by
  refine nt8' m (i + 1) _ (by omega) ?_
  unfold nf0'
  cases hr:(nd' vs (i:Int)).Ready with
  | false=>
   rcases h with ⟨h1,h2⟩ | h
   ·refine .inl ⟨h1,fun j hj hj'=>?_⟩
    rcases Nat.lt_or_ge j i with hlt | hge
    ·exact h2 j hlt hj'
    ·have:j=i:=by omega
     subst this; rw [hr] at hj'; cases hj'
   ·exact .inr h
  | true=>
   rw [Bool.not_true,Bool.false_or]
   by_cases he:(i:Int)=except
   ·rw [show ((i:Int)==except)=true by rw [he]; simp,cond_true]
    rcases h with ⟨h1,h2⟩ | h
    ·refine .inl ⟨h1,fun j hj hj'=>?_⟩
     rcases Nat.lt_or_ge j i with hlt | hge
     ·exact h2 j hlt hj'
     ·have:j=i:=by omega
      subst this; exact he
    ·exact .inr h
   ·rw [beq_f he,cond_false]
    cases hb:(best==-1||betB (rankV b vs floor dir i) (rankV b vs floor dir best)) with
    | true=>exact .inr ⟨by show (0:Int)≤(i:Int); omega,by show (i:Int) < _; omega,hr,he⟩
    | false=>
     rcases h with ⟨h1,h2⟩ | h
     ·rw [h1] at hb; cases hb
     ·exact .inr h
theorem nyo' {b:Bldg} {vs:List View} (hcode:b.code=0) (hlen:(vs.length:Int)=(b.Cars.length:Int)) (floor dir except:Int) :
  (ncc' b vs floor dir except=-1∧(∀ j:Nat,j < vs.length→(nd' vs j).Ready=true→(j:Int)=except))∨(0≤ncc' b vs floor dir except∧ncc' b vs floor dir except < vs.length∧(nd' vs (ncc' b vs floor dir except)).Ready=true∧ncc' b vs floor dir except ≠ except):=by
 unfold ncc'
 have e1:((vs.length:Int) != (b.Cars.length:Int))=false:=by rw [hlen]; simp
 rw [hcode,e1]
 exact nt8' vs.length 0 (-1) (by omega) (.inl ⟨rfl,fun j hj=>by omega⟩)
def ni1' (vs:List View):Nat:=vs.countP (·.Ready)
theorem np2':∀ {vs:List View},(∀ j:Nat,j < vs.length→(nd' vs j).Ready=false)→ni1' vs=0
 | [],_=>rfl
 | v :: t,h=>by
  have h0:v.Ready=false:=h 0 (by simp)
  have ht:=np2' (vs:=t) fun j hj=>h (j + 1) (by simp; omega)
  unfold ni1' at *
  rw [List.countP_cons_of_neg (by rw [h0]; simp)]; exact ht
theorem nw6':∀ {vs:List View} (o e:Int),(∀ j:Nat,j < vs.length→(nd' vs j).Ready=true→o + j=e)→ni1' vs≤1
 | [],_,_,_=>by simp [ni1']
 | v :: t,o,e,h=>by
  cases hv:v.Ready with
  | true=>
   have h0:o + ((0:Nat):Int)=e:=h 0 (by simp) hv
   have ht:=np2' (vs:=t) fun j hj=>by
    cases hr:(nd' t j).Ready with
    | false=>rfl
    | true=>have:=h (j + 1) (by simp; omega) hr; omega
   unfold ni1' at *
   rw [List.countP_cons_of_pos (by rw [hv])]; omega
  | false=>
   have ht:=nw6' (vs:=t) (o + 1) e fun j hj hr=>by have:=h (j + 1) (by simp; omega) hr; omega
   unfold ni1' at *
   rw [List.countP_cons_of_neg (by rw [hv]; simp)]; exact ht
structure Plan22 (b:Bldg) (m:Img) (vs:List View) (xs:List Int):Prop where
 small:b.small
 code:b.code=0
 cars:1≤b.Cars.length∧b.Cars.length≤3
 img:ImgOK b m
 ents:m.Entries.length≤60
 made:Made b vs
 xlen:xs.length=m.Entries.length
 xval:∀ x ∈ xs,0≤x∧x≤1000000
section
variable {b:Bldg} {m:Img} {vs:List View} {xs:List Int} (h:Plan22 b m vs xs)
include h
theorem Plan22.vlen:(vs.length:Int)=(b.Cars.length:Int):=by have:=h.made.len; omega
theorem Plan22.planV_eq:planV b m xs vs=(planR b vs m.Entries xs,planN b vs m.Entries xs,0,()):=by
 unfold planV
 have h1:(xs.length:Int)==(m.Entries.length:Int):=by rw [h.xlen]; simp
 have h2:(vs.length:Int)==(b.Cars.length:Int):=by rw [h.vlen]; simp
 have h3:expOK xs=true:=List.all_eq_true.2 fun x hx=>nba'.2 (h.xval x hx)
 rw [Img.ok_iff.2 h.img,h1,h2,h3]; rfl
theorem Plan22.notLost {i:Int} (hi:0≤i∧i < vs.length) (hr:(nd' vs i).Ready=true):(nd' vs i).Lost=false:=by
 cases hl:(nd' vs i).Lost with
 | false=>rfl
 | true=>
  have:=h.made.lost (nd' vs i) (ncq' _ (show i.toNat < vs.length by omega)) hl
  rw [this] at hr; cases hr
theorem Plan22.car {e:Entry} (_he:-2≤e.Car∧e.Car < (vs.length:Int)) (x:Int) :
  (0≤(decV b vs e x).Car→(nd' vs (decV b vs e x).Car).Lost=false) ∧
  (0≤(decV b vs e x).Car→(decV b vs e x).Car ≠ e.Car→(nd' vs (decV b vs e x).Car).Ready=true) ∧
  (e.Car=-2→(decV b vs e x).Car=-2) ∧
  ((decV b vs e x).Car=-1→(e.Car=-1→ni1' vs=0)∧(0≤e.Car→ni1' vs≤1)):=by
 have key:∀ n except:Int,n=ncc' b vs e.Floor e.Dir except→(0≤n→(nd' vs n).Lost=false)∧(0≤n→(nd' vs n).Ready=true)∧(n=-1→(∀ j:Nat,j < vs.length→(nd' vs j).Ready=true→(j:Int)=except))∧n ≠ -2:=fun n except hn=>by
  rcases nyo' h.code h.vlen e.Floor e.Dir except with ⟨h1,h2⟩ | ⟨h1,h2,h3,_⟩
  ·rw [← hn] at h1
   exact ⟨fun _=>by omega,fun _=>by omega,fun _=>h2,by omega⟩
  ·rw [← hn] at h1 h2 h3
   exact ⟨fun _=>h.notLost ⟨h1,h2⟩ h3,fun _=>h3,fun _=>by omega,by omega⟩
 unfold decV
 by_cases g1:e.Car=-2
 ·rw [show (e.Car==-2)=true by rw [g1]; rfl,cond_true]
  exact ⟨fun _=>by omega,fun _ hh=>absurd rfl hh,fun _=>g1,fun _=>by omega⟩
 rw [beq_f g1,cond_false]
 by_cases g2:e.Car=-1
 ·rw [show (e.Car==-1)=true by rw [g2]; rfl,cond_true]
  obtain ⟨k1,k2,k3,k4⟩:=key _ (-1) rfl
  refine ⟨k1,fun hh _=>k2 hh,fun hh=>absurd hh g1,fun hh=>⟨fun _=>np2' fun j hj=>?_,fun _=>by omega⟩⟩
  cases hr:(nd' vs j).Ready with
  | false=>rfl
  | true=>have:=k3 hh j hj hr; omega
 rw [beq_f g2,cond_false]
 cases hlost:(nd' vs e.Car).Lost with
 | true=>
  rw [cond_true]
  cases decide ((b.Cars.length:Int) < e.Moves) with
  | true=>exact ⟨fun hh=>absurd hh (by show ¬ (0:Int)≤-2; omega),fun hh=>absurd hh (by show ¬ (0:Int)≤-2; omega),fun hh=>absurd hh g1,fun hh=>absurd hh (by show ¬ (-2:Int)=-1; omega)⟩
  | false=>
   obtain ⟨k1,k2,k3,k4⟩:=key _ e.Car rfl
   exact ⟨k1,fun hh _=>k2 hh,fun hh=>absurd hh g1,fun hh=>⟨fun hh'=>absurd hh' g2,fun _=>nw6' 0 e.Car fun j hj hr=>by have:=k3 hh j hj hr; omega⟩⟩
 | false=>
  rw [cond_false]
  have self:(0≤e.Car→(nd' vs e.Car).Lost=false)∧(0≤e.Car→e.Car ≠ e.Car→(nd' vs e.Car).Ready=true)∧(e.Car=-2→e.Car=-2)∧(e.Car=-1→(e.Car=-1→ni1' vs=0)∧(0≤e.Car→ni1' vs≤1)):=
   ⟨fun _=>hlost,fun _ hh=>absurd rfl hh,fun hh=>hh,fun hh=>absurd hh g2⟩
  cases (!e.Moved&&decide (e.Moves≤(b.Cars.length:Int))) with
  | false=>exact self
  | true=>
   rw [cond_true]
   cases ho:ne5' b vs e x != -1 with
   | false=>exact self
   | true=>
    have hne:ne5' b vs e x ≠ -1:=by simpa using ho
    have heq:ne5' b vs e x=ncc' b vs e.Floor e.Dir e.Car:=by
     unfold ne5' at hne ⊢
     cases hc:ncc' b vs e.Floor e.Dir e.Car==-1 with
     | true=>rw [hc] at hne; exact absurd rfl hne
     | false=>
      rw [hc] at hne
      cases hbt:npb' b vs e x (ncc' b vs e.Floor e.Dir e.Car) with
      | true=>rfl
      | false=>rw [hbt] at hne; exact absurd rfl hne
    obtain ⟨k1,k2,k3,k4⟩:=key _ e.Car heq
    exact ⟨k1,fun hh _=>k2 hh,fun hh=>absurd hh g1,fun hh=>absurd hh hne⟩
end
end Go.Ovl
namespace Go.Ovl
open Go Go.Ab
set_option maxRecDepth 100000
theorem n6q':nkr'=some ((true,()),()):=by kernel_rfl
theorem n9y' (F D:Int):∃ c:Int×Int,nib' F D=some (((),()),((c.1,c.2,()),())):=⟨oneC F D,nu3' F D⟩
def setV (vs:List View) (i:Nat) (c:Int×Int):List View:=vs.set i (View.mk (vs.getD i noV).Ready (vs.getD i noV).Serving (vs.getD i noV).Legacy (vs.getD i noV).Lost (vs.getD i noV).Floor (vs.getD i noV).Dir (vs.getD i noV).Load c.1 c.2 (vs.getD i noV).Stops_Car (vs.getD i noV).Stops_Hall_Up (vs.getD i noV).Stops_Hall_Down)
theorem ns1' (vs:List View) (i:Nat) (c:Int×Int):(setV vs i c).length=vs.length:=List.length_set ..
theorem n57' {b:Bldg} {vs:List View} (h:Made b vs) {i:Nat} (hi:i < vs.length) (c:Int×Int):Made b (setV vs i c):=by
 have hm:=ncq' noV hi
 refine ⟨by rw [ns1']; exact h.len,fun v hv=>?_,fun v hv hl=>?_,fun v hv=>?_⟩
 ·rcases njs' hv with rfl | hv
  ·obtain ⟨q1,q2,q3⟩:=h.ok _ hm
   exact ⟨q1,q2,q3⟩
  ·exact h.ok v hv
 ·rcases njs' hv with rfl | hv
  ·exact h.lost (vs.getD i noV) hm hl
  ·exact h.lost v hv hl
 ·rcases njs' hv with rfl | hv
  ·exact h.flo (vs.getD i noV) hm
  ·exact h.flo v hv
theorem nvi' {b:Bldg} (hb:b.small) (hc:b.Cars.length≤8) {l:List Int} (hl:∀ e ∈ l,u8r e) (hlen:l.length≤maxLen) :
  ∃ vs:List View,nhj' b.Floors b.Debounce b.Room b.Park b.Empty b.Full b.Over b.Cars l=some ((vs,()),())∧Made b vs:=by
 have lo:=hb.lo
 have hi8:=hb.hi
 obtain ⟨v0,hV,hM⟩:=nvp' hb hc hl hlen
 have h:=npa' (step:=fun x=>ncz' x.1.1 x.1.2.2.1 x.1.2.2.2.1 x.2.1.1 x.2.1.2.1 x.2.1.2.2.1 x.2.1.2.2.2.1 x.2.1.2.2.2.2.1 x.2.1.2.2.2.2.2.1 x.2.1.2.2.2.2.2.2.1 x.2.1.2.2.2.2.2.2.2.1) (fun x=>∃ (i:Nat) (v:List View),x=((l,(),v,(i:Int),()),(b.tup,()))∧i≤v.length∧Made b v) (fun y=>∃ v:List View,y=((v,()),())∧Made b v) (fun x=>(x.1.2.2.1.length:Int).toNat - x.1.2.2.2.1.toNat) (by
  rintro x ⟨i,v,rfl,hi,hm⟩
  have hvl:=hm.len
  by_cases g:i < v.length
  ·by_cases g2:i < l.length
   ·have he:=hl _ (ncq' 0 g2)
    unfold u8r at he
    have hw:=wrap1 g (show v.length≤nr' by unfold nr'; omega)
    cases hz:Int.tmod (l.getD i 0) 3==0 with
    | true=>
     obtain ⟨c,ho⟩:=n9y' (Int.tmod (IntKind.i64.wrap (Int.tdiv (IntKind.i64.wrap (l.getD i 0)) 3)) b.Floors) (IntKind.i64.wrap (1 + IntKind.i64.wrap (Int.tmod (IntKind.u8.wrap (Int.tdiv (l.getD i 0) 64)) 2)))
     refine .inl ⟨((l,(),setV v i c,((i + 1:Nat):Int),()),(b.tup,())),?_,⟨i + 1,_,rfl,by rw [ns1']; omega,n57' hm g c⟩,?_⟩
     ·show ncz' l v (i:Int) b.Floors b.Debounce b.Room b.Park b.Empty b.Full b.Over b.Cars=_
      unfold ncz'
      rw [show View.mk false false false false 0 0 0 0 0 0 0 0=noV from rfl]
      simp only [decide_eq_true (show (i:Int) < (v.length:Int) by omega),decide_eq_true (show (i:Int) < (l.length:Int) by omega),nc' (show (0:Int)≤(i:Int) by omega) (show (i:Int) < (l.length:Int) by omega),nc' (show (0:Int)≤(i:Int) by omega) (show (i:Int) < (v.length:Int) by omega),cond_true,Int.toNat_natCast,hz,bne_t (show ¬ b.Floors=0 by omega),ho,Option.bind_some,hw]
      rfl
     ·show ((setV v i c).length:Int).toNat - ((i + 1:Nat):Int).toNat < (v.length:Int).toNat - (i:Int).toNat
      rw [ns1']; omega
    | false=>
     refine .inl ⟨((l,(),v,((i + 1:Nat):Int),()),(b.tup,())),?_,⟨i + 1,v,rfl,by omega,hm⟩,?_⟩
     ·show ncz' l v (i:Int) b.Floors b.Debounce b.Room b.Park b.Empty b.Full b.Over b.Cars=_
      unfold ncz'
      simp only [decide_eq_true (show (i:Int) < (v.length:Int) by omega),decide_eq_true (show (i:Int) < (l.length:Int) by omega),nc' (show (0:Int)≤(i:Int) by omega) (show (i:Int) < (l.length:Int) by omega),cond_true,cond_false,Int.toNat_natCast,hz,hw]
      rfl
     ·show (v.length:Int).toNat - ((i + 1:Nat):Int).toNat < (v.length:Int).toNat - (i:Int).toNat
      omega
   ·refine .inr ⟨_,?_,v,rfl,hm⟩
    show ncz' l v (i:Int) b.Floors b.Debounce b.Room b.Park b.Empty b.Full b.Over b.Cars=_
    unfold ncz'
    simp only [decide_eq_true (show (i:Int) < (v.length:Int) by omega),decide_eq_false (show ¬ (i:Int) < (l.length:Int) by omega),cond_true,cond_false]
  ·refine .inr ⟨_,?_,v,rfl,hm⟩
   show ncz' l v (i:Int) b.Floors b.Debounce b.Room b.Park b.Empty b.Full b.Over b.Cars=_
   unfold ncz'
   simp only [decide_eq_false (show ¬ (i:Int) < (v.length:Int) by omega),cond_false]) (x:=((l,(),v0,(0:Int),()),(b.tup,()))) ⟨0,v0,rfl,by omega,hM⟩ (by
   show (v0.length:Int).toNat - (0:Int).toNat < _
   have:=hM.len
   omega)
 obtain ⟨y,h1,v,rfl,hm⟩:=h
 refine ⟨v,?_,hm⟩
 unfold nhj'
 rw [hV]
 simp only [Option.bind_some]
 rw [show ni3' ((l,(),v0,(0:Int),()),((b.Floors,b.Debounce,b.Room,b.Park,b.Empty,b.Full,b.Over,b.Cars,()),()))=_ from h1]
 rfl
theorem nth' (m:Img) (hml:m.Entries.length≤1000) {l:List Int} (hl:∀ e ∈ l,u8r e) :
  ∃ xs:List Int,nbv' m.Phases m.Flags m.Leaving m.Entries l=some ((xs,()),())∧xs.length=m.Entries.length∧∀ x ∈ xs,0≤x∧x≤4:=by
 have h:=npa' (step:=fun x=>nc3' x.1.1 x.1.2.1 x.1.2.2.1) (fun x=>∃ (i:Nat) (v:List Int),x=((l,v,(i:Int),()),())∧i≤v.length∧v.length=m.Entries.length∧∀ x ∈ v,0≤x∧x≤4) (fun y=>∃ v:List Int,y=((v,()),())∧v.length=m.Entries.length∧∀ x ∈ v,0≤x∧x≤4) (fun x=>(x.1.2.1.length:Int).toNat - x.1.2.2.1.toNat) (by
  rintro x ⟨i,v,rfl,hi,hvl,hm⟩
  by_cases g:i < v.length
  ·by_cases g2:i < l.length
   ·have he:=hl _ (ncq' 0 g2)
    unfold u8r at he
    have hw:=wrap1 g (show v.length≤nr' by unfold nr'; omega)
    have h5:0≤Int.tmod (l.getD i 0) 5∧Int.tmod (l.getD i 0) 5≤4:=by
     have h1:=Int.tmod_nonneg 5 he.1
     have h2:=Int.tmod_lt_of_pos (l.getD i 0) (show (0:Int) < 5 by omega)
     omega
    refine .inl ⟨((l,v.set i (Int.tmod (l.getD i 0) 5),((i + 1:Nat):Int),()),()),?_,⟨i + 1,_,rfl,by rw [List.length_set]; omega,by rw [List.length_set]; exact hvl,fun x hx=>?_⟩,?_⟩
    ·show nc3' l v (i:Int)=_
     unfold nc3'
     simp only [decide_eq_true (show (i:Int) < (v.length:Int) by omega),decide_eq_true (show (i:Int) < (l.length:Int) by omega),nc' (show (0:Int)≤(i:Int) by omega) (show (i:Int) < (l.length:Int) by omega),nc' (show (0:Int)≤(i:Int) by omega) (show (i:Int) < (v.length:Int) by omega),cond_true,Int.toNat_natCast,hw,nb' (n:=Int.tmod (l.getD i 0) 5) (by omega) (by omega)]
    ·rcases njs' hx with rfl | hx
     ·exact h5
     ·exact hm x hx
    ·show ((v.set i _).length:Int).toNat - ((i + 1:Nat):Int).toNat < (v.length:Int).toNat - (i:Int).toNat
     rw [List.length_set]; omega
   ·refine .inr ⟨_,?_,v,rfl,hvl,hm⟩
    show nc3' l v (i:Int)=_
    unfold nc3'
    simp only [decide_eq_true (show (i:Int) < (v.length:Int) by omega),decide_eq_false (show ¬ (i:Int) < (l.length:Int) by omega),cond_true,cond_false]
  ·refine .inr ⟨_,?_,v,rfl,hvl,hm⟩
   show nc3' l v (i:Int)=_
   unfold nc3'
   simp only [decide_eq_false (show ¬ (i:Int) < (v.length:Int) by omega),cond_false]) (x:=((l,List.replicate m.Entries.length 0,(0:Int),()),())) ⟨0,_,rfl,Nat.zero_le _,List.length_replicate,fun x hx=>by rw [List.eq_of_mem_replicate hx]; omega⟩ (by
   show ((List.replicate m.Entries.length (0:Int)).length:Int).toNat - (0:Int).toNat < _
   rw [List.length_replicate]; omega)
 obtain ⟨y,h1,v,rfl,hvl,hm⟩:=h
 refine ⟨v,?_,hvl,hm⟩
 unfold nbv'
 simp only [decide_eq_true (show (0:Int)≤(m.Entries.length:Int) by omega),decide_eq_true (Int.le_refl (m.Entries.length:Int)),decide_eq_true (show (m.Entries.length:Int)≤2147483648 by omega),Int.toNat_natCast,Bool.and_self,cond_true]
 rw [show nht' ((l,List.replicate m.Entries.length (0:Int),(0:Int),()),())=_ from h1]
 rfl
theorem n85' {n0 n1:Int} (h0:0≤n0∧n0 < 256) (h1:0≤n1∧n1 < 256) {l k:List Int} (h_l:l.length≤maxLen∧∀ e ∈ l,(0≤e∧e < 256)) (h_k:k.length≤maxLen∧∀ e ∈ k,(0≤e∧e < 256)) :
  ∃ (b:Bldg) (m:Img) (vs:List View) (xs:List Int),ndc' n0 n1=some (((),()),(b.tup,()))∧nhq' b.Floors b.Debounce b.Room b.Park b.Empty b.Full b.Over b.Cars l=some (((),()),(m.tup,()))∧nhj' b.Floors b.Debounce b.Room b.Park b.Empty b.Full b.Over b.Cars k=some ((vs,()),())∧nbv' m.Phases m.Flags m.Leaving m.Entries k=some ((xs,()),())∧Plan22 b m vs xs:=by
 obtain ⟨fl,ca,f1,f2,c1,c2,hB⟩:=nr4' h0 (room:=n1) (by omega)
 have hs:(bld10 fl ca n1).small:=⟨by show (2:Int)≤(fl:Int); omega,by show (fl:Int)≤8; omega⟩
 have hc:(bld10 fl ca n1).Cars.length=ca:=by simp [bld10,nby']
 have hcode:(bld10 fl ca n1).code=0:=n18' f1 f2 c1 c2 (by omega)
 obtain ⟨m,hI,hm,hml⟩:=nvs' hs hcode (by omega) h_l.2
 obtain ⟨vs,hV,hM⟩:=nvi' hs (by omega) h_k.2 h_k.1
 have hme:=nb5' hs hm
 obtain ⟨xs,hX,hxl,hxs⟩:=nth' m (by omega) h_k.2
 refine ⟨bld10 fl ca n1,m,vs,xs,hB,hI,hV,hX,⟨hs,hcode,by omega,hm,by omega,hM,hxl,fun x hx=>?_⟩⟩
 have:=hxs x hx
 omega
theorem Plan22.exp {b:Bldg} {m:Img} {vs:List View} {xs:List Int} (h:Plan22 b m vs xs):expOK xs=true:=List.all_eq_true.2 fun x hx=>nba'.2 (h.xval x hx)
theorem Plan22.tick {b:Bldg} {m:Img} {vs:List View} {xs:List Int} (h:Plan22 b m vs xs) {ps:List Calls} (hp:ps.length=b.Cars.length) (press:Int×Int) (good:Bool):nu' b.Floors b.Debounce b.Room b.Park b.Empty b.Full b.Over b.Cars m.Phases m.Flags m.Leaving m.Entries xs vs ps press.1 press.2 good=some (((),0,()),((tickV b m xs vs ps press good).tup,())):=
 nte' h.small h.code h.img h.xlen ps press good h.exp h.made.ok h.made.len hp
theorem n1r' {α:Type} {c:Bool} {a r:α} (h:r ∈ (bif c then [a] else [])):r=a:=by
 cases c with
 | true=>exact List.mem_singleton.1 h
 | false=>cases h
theorem nus' (b:Bldg) (vs:List View):∀ (l:List Entry) (xs:List Int),∀ r ∈ planR b vs l xs,r.Kind=3∨r.Kind=7
 | [],xs,r,hr=>by simp [planR] at hr
 | _ :: _,[],r,hr=>by simp [planR] at hr
 | e :: t,x :: xs,r,hr=>by
  simp only [planR] at hr
  rcases List.mem_append.1 hr with h | h
  ·unfold recsV at h
   rcases List.mem_append.1 h with h | h
   ·right; rw [n1r' h]
   ·left; rw [n1r' h]
  ·exact nus' b vs t xs r h
theorem nt6' (b:Bldg) (m:Img) (xs:List Int) (vs:List View):∀ r ∈ (planV b m xs vs).1,r.Kind=3∨r.Kind=7:=by
 unfold planV
 cases m.ok b&&((xs.length:Int)==(m.Entries.length:Int)&&((vs.length:Int)==(b.Cars.length:Int)&&expOK xs)) with
 | true=>exact nus' b vs m.Entries xs
 | false=>exact fun r hr=>by cases hr
end Go.Ovl
namespace Go.Ovl
open Go Go.Ab
set_option maxRecDepth 100000
def nez' (b:Bldg):Img→List Record→Img×Int
 | m,[]=>(m,0)
 | m,r :: t=>bif n0' b r then nez' b (nbh' m r) t else (Img.none,1)
theorem nqc' {b:Bldg}:∀ {l:List Record} {m:Img},(∀ r ∈ l,n0' b r=true)→nez' b m l=(nbn' m l,0)
 | [],_,_=>rfl
 | r :: t,m,h=>by
  simp only [nez']
  rw [h r (List.mem_cons_self ..),cond_true]
  exact nqc' fun x hx=>h x (List.mem_cons_of_mem _ hx)
theorem nsf' {b:Bldg}:∀ {l:List Record} {m:Img},(nez' b m l).2 ≠ 0→nez' b m l=(Img.none,1)
 | [],_,h=>absurd rfl h
 | r :: t,m,h=>by
  simp only [nez'] at h ⊢
  cases hv:n0' b r with
  | true=>rw [hv] at h; exact nsf' h
  | false=>rfl
section
variable {b:Bldg} (hb:b.small) (hcode:b.code=0)
include hb hcode
theorem nun' {l:List Record} (hl:l.length≤10000):∀ (k i:Nat) (Y:Img),i + k=l.length→ImgOK b Y→iter (fun x=>ndd' x.1.1 x.1.2.2.2.2.1 x.2.1.1 x.2.1.2.1 x.2.1.2.2.1 x.2.1.2.2.2.1 x.2.1.2.2.2.2.1 x.2.1.2.2.2.2.2.1 x.2.1.2.2.2.2.2.2.1 x.2.1.2.2.2.2.2.2.2.1 x.2.2.1.1 x.2.2.1.2.1 x.2.2.1.2.2.1 x.2.2.1.2.2.2.1 x.2.2.2.1.1 x.2.2.2.1.2.1 x.2.2.2.1.2.2.1 x.2.2.2.1.2.2.2.1) (k + 1) ((l,(),(),(),(i:Int),()),(b.tup,Y.tup,Img.none.tup,()))=some (bif (nez' b Y (l.drop i)).2==0 then .inl (((),(),()),((nez' b Y (l.drop i)).1.tup,Img.none.tup,())) else .inr (((),1,()),(Img.none.tup,()))):=by
 intro k
 induction k with
 | zero=>
  intro i Y hi hY
  obtain rfl:i=l.length:=by omega
  refine ni' ?_
  show ndd' l (l.length:Int) b.Floors b.Debounce b.Room b.Park b.Empty b.Full b.Over b.Cars Y.Phases Y.Flags Y.Leaving Y.Entries [] [] [] []=_
  unfold ndd'
  rw [decide_eq_false (Int.lt_irrefl (l.length:Int)),List.drop_length]
  rfl
 | succ k ih=>
  intro i Y hi hY
  have hi':i < l.length:=by omega
  have hcc:=net' hcode
  have he:=nb5' hb hY
  have hlp:=hY.lp
  have hmx:100000≤maxLen:=by decide
  have ha:=nq7' hb Y (by omega) (by omega) (by omega) (r:=l.getD i noRec)
  unfold nj6' at ha
  rw [Img.ok_iff.2 hY,Bool.true_and] at ha
  rw [n3' noRec hi']
  simp only [nez']
  cases hv:n0' b (l.getD i noRec) with
  | true=>
   rw [hv] at ha
   refine (ns' (x':=((l,(),(),(),((i + 1:Nat):Int),()),(b.tup,(nbh' Y (l.getD i noRec)).tup,Img.none.tup,()))) ?_).trans (ih (i + 1) _ (by omega) (nh9' hY hv).1)
   show ndd' l (i:Int) b.Floors b.Debounce b.Room b.Park b.Empty b.Full b.Over b.Cars Y.Phases Y.Flags Y.Leaving Y.Entries [] [] [] []=_
   unfold ndd'
   rw [show Record.mk 0 0 0 0 0=noRec from rfl]
   simp only [decide_eq_true (show (i:Int) < (l.length:Int) by omega),nc' (show (0:Int)≤(i:Int) by omega) (show (i:Int) < (l.length:Int) by omega),cond_true,Int.toNat_natCast,ha,Option.bind_some,bne_self_eq_false,cond_false,wrap1 hi' (show l.length≤nr' by unfold nr'; omega)]
   rfl
  | false=>
   rw [hv] at ha
   refine ni' ?_
   show ndd' l (i:Int) b.Floors b.Debounce b.Room b.Park b.Empty b.Full b.Over b.Cars Y.Phases Y.Flags Y.Leaving Y.Entries [] [] [] []=_
   unfold ndd'
   rw [show Record.mk 0 0 0 0 0=noRec from rfl]
   simp only [decide_eq_true (show (i:Int) < (l.length:Int) by omega),nc' (show (0:Int)≤(i:Int) by omega) (show (i:Int) < (l.length:Int) by omega),cond_true,Int.toNat_natCast,ha,cond_false,Option.bind_some]
   rfl
theorem n9g' {m:Img} (hm:ImgOK b m):m.fit:=by
 have hcc:=net' hcode
 have he:=nb5' hb hm
 have h1:=hm.lp
 have h2:=hm.lf
 have h3:=hm.ll
 exact ⟨by omega,by omega,by omega,by omega⟩
theorem nxm' {m:Img} (hm:ImgOK b m) {l:List Record} (hl:l.length≤10000):nkz' b.Floors b.Debounce b.Room b.Park b.Empty b.Full b.Over b.Cars m.Phases m.Flags m.Leaving m.Entries l=some (((),(nez' b m l).2,()),((nez' b m l).1.tup,())):=by
 have h:=nun' hb hcode hl l.length 0 m (by omega) hm
 rw [List.drop_zero] at h
 have h':ngw' ((l,(),(),(),(0:Int),()),(b.tup,m.tup,Img.none.tup,()))=_:=nf' h (by omega)
 unfold nkz'
 rw [show ngw' ((l,(),(),(),(0:Int),()),((b.Floors,b.Debounce,b.Room,b.Park,b.Empty,b.Full,b.Over,b.Cars,()),(m.Phases,m.Flags,m.Leaving,m.Entries,()),(([]:List Int),([]:List Bool),([]:List Bool),([]:List Entry),()),()))=_ from h']
 by_cases g:(nez' b m l).2=0
 ·generalize nez' b m l=w at g
  rw [g]
  rfl
 ·rw [beq_f g,nsf' g]
  rfl
end
structure Rnd.from (b:Bldg) (m:Img) (X:Rnd):Prop where
 val:∀ r ∈ X.recs,n0' b r=true
 img:X.img=nbn' m X.recs
theorem n2h' {b:Bldg} {m:Img} {X:Rnd} (h:X.from b m) {r:Record} (hv:n0' b r=true):(stepW r X).from b m:=by
 refine ⟨fun x hx=>?_,?_⟩
 ·rcases List.mem_append.1 (show x ∈ X.recs++[r] from hx) with hx | hx
  ·exact h.val x hx
  ·rw [List.mem_singleton.1 hx]; exact hv
 ·show nbh' X.img r=nbn' m (X.recs++[r])
  rw [nmg',← h.img]; rfl
theorem n2f' {b:Bldg} {m:Img} {X:Rnd} (h:X.from b m) {e:Entry} (hv:nh' b e.Floor e.Dir=true):(stepG b e X).from b m:=by
 unfold stepG
 cases roomV b X.img with
 | true=>exact n2h' h (nod' hv)
 | false=>exact ⟨h.val,h.img⟩
theorem nv9' {b:Bldg} {m:Img}:∀ {l:List Entry} {X:Rnd},X.from b m→(∀ e ∈ l,nh' b e.Floor e.Dir=true)→(regL b l X).from b m
 | [],_,h,_=>h
 | e :: t,X,h,hv=>by
  show (regL b t (stepG b e X)).from b m
  exact nv9' (n2f' h (hv e (List.mem_cons_self ..))) fun x hx=>hv x (List.mem_cons_of_mem _ hx)
theorem ny9' {b:Bldg} {m:Img} {X:Rnd} (h:X.from b m) {l:List Record} (hv:∀ r ∈ l,n0' b r=true):(wrL l X).from b m:=by
 refine ⟨fun x hx=>?_,?_⟩
 ·rcases List.mem_append.1 (show x ∈ X.recs++l from hx) with hx | hx
  ·exact h.val x hx
  ·exact hv x hx
 ·show nbn' X.img l=nbn' m (X.recs++l)
  rw [nmg',← h.img]
theorem n8i' {E:List Entry} {xs:List Int} {r:Record} {x:Int} (h:x ∈ xsV E xs r):x ∈ xs∨x=0:=by
 unfold xsV at h
 cases hc:(r.Kind==2)&&hasF (keyE r.Floor r.Dir) E with
 | true=>
  rw [hc] at h
  rcases List.mem_append.1 h with h | h
  ·exact .inl (List.mem_of_mem_take h)
  ·exact .inl (List.mem_of_mem_drop h)
 | false=>
  rw [hc] at h
  simp only [cond_false] at h
  cases hd:(r.Kind==1)&&!hasF (keyE r.Floor r.Dir) E with
  | true=>
   rw [hd] at h
   rcases List.mem_append.1 h with h | h
   ·rcases List.mem_append.1 h with h | h
    ·exact .inl (List.mem_of_mem_take h)
    ·exact .inr (List.mem_singleton.1 h)
   ·exact .inl (List.mem_of_mem_drop h)
  | false=>rw [hd] at h; exact .inl h
def niz' (xs:List Int):Prop:=∀ x ∈ xs,0≤x∧x≤1000000
theorem nzb' {E:List Entry} {xs:List Int} (h:niz' xs) (r:Record):niz' (xsV E xs r):=fun x hx=>by
 rcases n8i' hx with hx | rfl
 ·exact h x hx
 ·omega
theorem nys':∀ {l:List Record} {m:Img} {xs:List Int},niz' xs→niz' (xsL m xs l)
 | [],_,_,h=>h
 | r :: t,m,xs,h=>by
  show niz' (xsL (nbh' m r) (xsV m.Entries xs r) t)
  exact nys' (nzb' h r)
theorem nwq' (b:Bldg):∀ {l:List Entry} {X:Rnd},niz' X.xs→niz' (regL b l X).xs
 | [],_,h=>h
 | e :: t,X,h=>by
  show niz' (regL b t (stepG b e X)).xs
  refine nwq' b ?_
  unfold stepG
  cases roomV b X.img with
  | true=>exact nzb' h (regR e)
  | false=>exact h
section
variable {b:Bldg} {m:Img} {vs:List View} {xs:List Int} (h:Plan22 b m vs xs) (ps:List Calls) (press:Int×Int) (good:Bool)
include h
theorem nu2':(tickX b m xs vs ps press good).from b m:=by
 have h0:∀ L:Lan,Rnd.from b m ⟨[],m,xs,L,(0,0)⟩:=fun L=>⟨(fun r hr=>by cases hr),rfl⟩
 unfold tickX
 cases good with
 | false=>exact h0 _
 | true=>
  have hv:=nln' h.code vs (l:=m.Entries) fun e he=>(ncx'.1 (h.img.en e he)).1
  exact nv9' (ny9' (h0 _) fun r hr=>(hv r hr).1) fun e he=>npo' h.small h.code he
theorem n13':niz' (tickX b m xs vs ps press good).xs:=by
 have h0:niz' xs:=h.xval
 unfold tickX
 cases good with
 | false=>exact h0
 | true=>exact nwq' b (nys' h0)
theorem n40':Plan22 b (tickX b m xs vs ps press good).img vs (tickX b m xs vs ps press good).xs:=by
 obtain ⟨hok,_⟩:=nk8' h.small h.code h.img h.xlen (vs:=vs) ps press good
 have he:=nb5' h.small hok.img
 exact ⟨h.small,h.code,h.cars,hok.img,by omega,h.made,hok.len,n13' h ps press good⟩
theorem n2j':(tickV b m xs vs ps press good).from b m:=by
 obtain ⟨hok,_⟩:=nk8' h.small h.code h.img h.xlen (vs:=vs) ps press good
 have hw:=ny9' (nu2' h ps press good) (l:=(tickP b m xs vs ps press good).1) (not' h.code hok.img _)
 exact ⟨hw.val,hw.img⟩
theorem n6g':ImgOK b (tickV b m xs vs ps press good).img∧(tickV b m xs vs ps press good).xs.length=(tickV b m xs vs ps press good).img.Entries.length∧(tickV b m xs vs ps press good).recs.length≤1000:=by
 have hn:=n40' h ps press good
 obtain ⟨hok,hrl⟩:=nk8' h.small h.code h.img h.xlen (vs:=vs) ps press good
 have he:=nb5' h.small hok.img
 have hp:=npt' (b:=b) (by have:=h.cars; omega) hn.vlen (tickX b m xs vs ps press good).img.Entries (tickX b m xs vs ps press good).xs [] (tickX b m xs vs ps press good).img hok.len hok.img rfl
 have e1:tickP b m xs vs ps press good=(planR b vs (tickX b m xs vs ps press good).img.Entries (tickX b m xs vs ps press good).xs,planN b vs (tickX b m xs vs ps press good).img.Entries (tickX b m xs vs ps press good).xs,0,()):=hn.planV_eq
 have hpl:=nro' b vs (tickX b m xs vs ps press good).img.Entries (tickX b m xs vs ps press good).xs
 have e2:(tickV b m xs vs ps press good).img=nbn' (tickX b m xs vs ps press good).img (tickP b m xs vs ps press good).1:=rfl
 have e3:(tickV b m xs vs ps press good).xs=(tickP b m xs vs ps press good).2.1:=rfl
 have e4:(tickV b m xs vs ps press good).recs=(tickX b m xs vs ps press good).recs++(tickP b m xs vs ps press good).1:=rfl
 rw [e2,e3,e4,e1]
 simp only
 rw [hp.1]
 refine ⟨hp.2.2,?_,by rw [List.length_append]; omega⟩
 rw [nqw' b vs _ _ hok.len]
 show _=(decL b vs (tickX b m xs vs ps press good).img.Entries (tickX b m xs vs ps press good).xs).length
 rw [nze' b vs _ _ hok.len]
end
end Go.Ovl
namespace Go.Ovl
open Go Go.Ab
set_option maxRecDepth 100000
def wstep (c:Int×Int) (r:Record):Int×Int:=
 bif r.Kind==2 then nbf' (bif r.Kind==1 then ncl' c (oneC r.Floor r.Dir) else c) (oneC r.Floor r.Dir) else (bif r.Kind==1 then ncl' c (oneC r.Floor r.Dir) else c)
theorem n4g' {c:Int×Int} (h:u32C c) (r:Record):u32C (wstep c r):=by
 unfold wstep
 cases r.Kind==2 with
 | true=>exact nxe' _ _
 | false=>
  cases r.Kind==1 with
  | true=>exact nom' _ _
  | false=>exact h
def Agree (c:Int×Int) (m:Img):Prop:=∀ f:Nat,f < 32→∀ d:Int,(d=1∨d=2)→(bitC c f d=true↔((f:Int),d) ∈ m.Entries.map nbx')
theorem nv2' (p:Int×Int):¬ ltC p p:=fun h=>by unfold ltC at h; omega
theorem n77' {l:List (Int×Int)} (hs:l.Pairwise ltC) {k:Nat} (hk:k < l.length) (p:Int×Int):p ∈ l.take k++l.drop (k + 1)↔p ∈ l∧p ≠ l[k]:=by
 have e:l=l.take k++l[k] :: l.drop (k + 1):=by
  rw [← List.drop_eq_getElem_cons hk,List.take_append_drop]
 have hs':=hs
 rw [e] at hs'
 obtain ⟨_,h2,h3⟩:=List.pairwise_append.1 hs'
 obtain ⟨h4,_⟩:=List.pairwise_cons.1 h2
 constructor
 ·intro h
  rcases List.mem_append.1 h with h | h
  ·exact ⟨List.mem_of_mem_take h,fun q=>nv2' _ (q ▸ h3 p h l[k] (List.mem_cons_self ..))⟩
  ·exact ⟨List.mem_of_mem_drop h,fun q=>nv2' _ (q ▸ h4 p h)⟩
 ·rintro ⟨h,hne⟩
  rw [e] at h
  rcases List.mem_append.1 h with h | h
  ·exact List.mem_append.2 (.inl h)
  ·rcases List.mem_cons.1 h with h | h
   ·exact absurd h hne
   ·exact List.mem_append.2 (.inr h)
theorem n1t' {b:Bldg} (hb:b.small) {c:Int×Int} {m:Img} (ha:Agree c m) (hm:ImgOK b m) {r:Record} (hv:n0' b r=true):Agree (wstep c r) (nbh' m r):=by
 intro f hf d hd
 have h0:=ha f hf d hd
 have hk:=(nsi' hv).2
 have hcall:(r.Kind=1∨r.Kind=2)→(0≤r.Floor∧r.Floor < 32)∧(r.Dir=1∨r.Dir=2):=fun h=>by
  have lo:=hb.lo
  have hi:=hb.hi
  have hc:nh' b r.Floor r.Dir=true:=by
   rcases hk with q | q | q | q | q | q | q
   ·exact q.2.1
   ·exact q.2.1
   all_goals omega
  unfold nh' callB at hc
  simp only [Bool.and_eq_true,Bool.or_eq_true,beq_iff_eq,nba'] at hc
  omega
 have hone:(r.Kind=1∨r.Kind=2)→(bitC (oneC r.Floor r.Dir) f d=true↔((f:Int),d)=(r.Floor,r.Dir)):=fun h=>by
  obtain ⟨h1,h2⟩:=hcall h
  rw [njl' h1 h2 f hd,decide_eq_true_eq]
 have same:∀ l:List Entry,l.map nbx'=m.Entries.map nbx'→¬ r.Kind=1→¬ r.Kind=2→(bitC (wstep c r) f d=true↔((f:Int),d) ∈ l.map nbx'):=fun l hl h1 h2=>by
  unfold wstep
  rw [beq_f h1,beq_f h2,hl]
  exact h0
 unfold nbh'
 by_cases k4:r.Kind=4
 ·rw [show (r.Kind==4)=true by rw [k4]; rfl]
  exact same _ rfl (by omega) (by omega)
 rw [beq_f k4,cond_false]
 by_cases k5:r.Kind=5
 ·rw [show (r.Kind==5)=true by rw [k5]; rfl]
  exact same _ rfl (by omega) (by omega)
 rw [beq_f k5,cond_false]
 by_cases k6:r.Kind=6
 ·rw [show (r.Kind==6)=true by rw [k6]; rfl]
  exact same _ rfl (by omega) (by omega)
 rw [beq_f k6,cond_false]
 rcases nik' r.Floor r.Dir m.Entries 0 with ⟨h1,h2⟩ | ⟨k,h1,h2,h3⟩
 ·rw [h1,show ((-1:Int)==-1)=true from rfl,cond_true]
  by_cases k1:r.Kind=1
  ·rw [show (r.Kind==1)=true by rw [k1]; rfl,cond_true]
   have hins:=npw' (c:=⟨r.Floor,r.Dir,-1,0,false⟩) h2
   show _↔((f:Int),d) ∈ (insL ⟨r.Floor,r.Dir,-1,0,false⟩ false m.Entries).map nbx'
   rw [hins]
   unfold wstep
   rw [k1]
   simp only [show ((1:Int)==2)=false from rfl,beq_self_eq_true,cond_true,cond_false]
   rw [nfq',Bool.or_eq_true,h0,hone (.inl k1)]
   generalize posF ⟨r.Floor,r.Dir,-1,0,false⟩ m.Entries=p
   conv=>lhs; rw [← List.take_append_drop p m.Entries]
   simp only [List.map_append,List.mem_append,List.map_cons,List.map_nil,List.mem_singleton,nbx']
   constructor
   ·rintro ((h | h) | h)
    ·exact .inl (.inl h)
    ·exact .inr h
    ·exact .inl (.inr h)
   ·rintro ((h | h) | h)
    ·exact .inl (.inl h)
    ·exact .inr h
    ·exact .inl (.inr h)
  ·rw [beq_f k1,cond_false]
   by_cases k2:r.Kind=2
   ·unfold wstep
    rw [k2]
    simp only [show ((2:Int)==1)=false from rfl,beq_self_eq_true,cond_true,cond_false]
    rw [nd8' _ _ hf,Bool.and_eq_true,h0,Bool.not_eq_true',← Bool.not_eq_true,hone (.inr k2)]
    refine ⟨fun h=>h.1,fun h=>⟨h,fun q=>?_⟩⟩
    obtain ⟨e,he,hq⟩:=List.mem_map.1 h
    have:=h2 e he
    rw [nrt'.2 (hq.trans q)] at this
    cases this
   ·exact same _ rfl k1 k2
 ·rw [Nat.zero_add] at h2
  rw [h2,beq_f (show ¬ (k:Int)=-1 by omega),cond_false,Int.toNat_natCast]
  have hkc:nbx' (m.Entries.getD k noE)=(r.Floor,r.Dir):=nrt'.1 h3
  have hget:m.Entries.getD k noE=m.Entries[k]:=by simp [h1]
  by_cases k2:r.Kind=2
  ·rw [show (r.Kind==2)=true by rw [k2]; rfl,cond_true]
   show _↔((f:Int),d) ∈ (m.Entries.take k++m.Entries.drop (k + 1)).map nbx'
   have hd1:=n77' (l:=m.Entries.map nbx') hm.so (k:=k) (by rw [List.length_map]; exact h1) ((f:Int),d)
   rw [List.map_append,List.map_take,List.map_drop,hd1,List.getElem_map,← hget,hkc]
   unfold wstep
   rw [k2]
   simp only [show ((2:Int)==1)=false from rfl,beq_self_eq_true,cond_true,cond_false]
   rw [nd8' _ _ hf,Bool.and_eq_true,h0,Bool.not_eq_true',← Bool.not_eq_true,hone (.inr k2)]
  ·rw [beq_f k2,cond_false]
   by_cases k1:r.Kind=1
   ·rw [k1]
    simp only [show ((1:Int)==3)=false from rfl,show ((1:Int)==7)=false from rfl,cond_false]
    unfold wstep
    rw [k1]
    simp only [show ((1:Int)==2)=false from rfl,beq_self_eq_true,cond_true,cond_false]
    rw [nfq',Bool.or_eq_true,h0,hone (.inl k1)]
    refine ⟨fun h=>?_,fun h=>.inl h⟩
    rcases h with h | h
    ·exact h
    ·rw [h,← hkc]
     exact List.mem_map.2 ⟨_,ncq' noE h1,rfl⟩
   ·by_cases k3:r.Kind=3
    ·rw [show (r.Kind==3)=true by rw [k3]; rfl,cond_true]
     exact same _ (nne' h1 rfl) k1 k2
    ·rw [beq_f k3,cond_false]
     by_cases k7:r.Kind=7
     ·rw [show (r.Kind==7)=true by rw [k7]; rfl,cond_true]
      exact same _ (nne' h1 rfl) k1 k2
     ·rw [beq_f k7,cond_false]
      exact same _ rfl k1 k2
theorem nqn' {b:Bldg} (hb:b.small):∀ (rs:List Record) {c:Int×Int} {m:Img},Agree c m→u32C c→ImgOK b m→(∀ r ∈ rs,n0' b r=true)→Agree (rs.foldl wstep c) (nbn' m rs)∧u32C (rs.foldl wstep c)∧ImgOK b (nbn' m rs)
 | [],_,_,h,hu,hm,_=>⟨h,hu,hm⟩
 | r :: t,_c,_m,h,hu,hm,hv=>nqn' hb t (n1t' hb h hm (hv r (List.mem_cons_self ..))) (n4g' hu r) (nh9' hm (hv r (List.mem_cons_self ..))).1 fun x hx=>hv x (List.mem_cons_of_mem _ hx)
end Go.Ovl
namespace Go.Ovl
open Go Go.Ab
set_option maxRecDepth 100000
def niy' (was:Int×Int) (X:Rnd):Int×Int:=X.recs.foldl wstep was
theorem nwv':∀ {l:List Record} (c:Int×Int),(∀ r ∈ l,r.Kind=3∨r.Kind=7)→l.foldl wstep c=c
 | [],_,_=>rfl
 | r :: t,c,h=>by
  have hr:=h r (List.mem_cons_self ..)
  have:wstep c r=c:=by
   unfold wstep
   rw [beq_f (show ¬ r.Kind=2 by omega),beq_f (show ¬ r.Kind=1 by omega)]; rfl
  rw [List.foldl_cons,this]
  exact nwv' c fun x hx=>h x (List.mem_cons_of_mem _ hx)
theorem nt4' (b:Bldg) (vs:List View) (ps:List Calls) {f:Nat} (hf:f < 32) (d:Int):∀ (k i:Nat) (s:Lan),i + k=vs.length→bitC (foldN (litS b vs ps) k i s).cl f d=(bitC s.cl f d||(vs.drop i).any fun v=>bitC (nbd' b v) f d)
 | 0,i,s,hi=>by rw [show i=vs.length by omega,List.drop_length]; simp [foldN]
 | k + 1,i,s,hi=>by
  show bitC (foldN (litS b vs ps) k (i + 1) (litS b vs ps i s)).cl f d=_
  rw [nt4' b vs ps hf d k (i + 1) _ (by omega),n3' noV (show i < vs.length by omega),List.any_cons]
  show (bitC (ncl' s.cl (litC b vs i s)) f d||_)=_
  unfold litC
  rw [nfq',nd8' _ _ hf]
  cases bitC s.cl f d <;> cases bitC (nbd' b (vs.getD i noV)) f d <;> rfl
theorem n4y' (b:Bldg) (vs:List View) (ps:List Calls) {f:Nat} (hf:f < 32) (d:Int):bitC (ncd' b vs ps).cl f d=servB b vs (f:Int) d:=by
 unfold ncd' servB
 rw [nt4' b vs ps hf d vs.length 0 Lan.none (by omega),List.drop_zero,Int.toNat_natCast]
 show (bitC (0,0) f d||_)=_
 rw [nes',Bool.false_or]
theorem nwj' (b:Bldg) (vs:List View) {f:Nat} (hf:f < 32) {d:Int} (hd:d=1∨d=2):∀ {l:List Entry} {c:Int×Int},(∀ e ∈ l,callE e)→(bitC ((servL b vs l).foldl wstep c) f d=true↔bitC c f d=true∧¬(((f:Int),d) ∈ l.map nbx'∧servB b vs (f:Int) d=true))
 | [],c,_=>by simp [servL]
 | e :: t,c,h=>by
  have he:=h e (List.mem_cons_self ..)
  have ht:=fun x hx=>h x (List.mem_cons_of_mem _ hx)
  have e0:servL b vs (e :: t)=(bif servB b vs e.Floor e.Dir then [Record.mk 2 e.Floor e.Dir 0 0] else [])++servL b vs t:=rfl
  rw [e0,List.foldl_append,nwj' b vs hf hd ht,List.map_cons,List.mem_cons]
  cases hs:servB b vs e.Floor e.Dir with
  | false=>
   show bitC c f d=true∧_↔_
   constructor
   ·rintro ⟨h1,h2⟩
    refine ⟨h1,fun hh=>h2 ⟨?_,hh.2⟩⟩
    rcases hh.1 with hh1 | hh1
    ·obtain ⟨q1,q2⟩:=Prod.mk.inj (show ((f:Int),d)=(e.Floor,e.Dir) from hh1)
     rw [q1,q2,hs] at hh
     cases hh.2
    ·exact hh1
   ·rintro ⟨h1,h2⟩
    exact ⟨h1,fun hh=>h2 ⟨.inr hh.1,hh.2⟩⟩
  | true=>
   have hw:List.foldl wstep c [Record.mk 2 e.Floor e.Dir 0 0]=nbf' c (oneC e.Floor e.Dir):=rfl
   rw [cond_true,hw,nd8' _ _ hf,njl' he.1 he.2 f hd,Bool.and_eq_true,Bool.not_eq_true',decide_eq_false_iff_not]
   constructor
   ·rintro ⟨⟨h1,h2⟩,h3⟩
    refine ⟨h1,fun hh=>h3 ⟨?_,hh.2⟩⟩
    rcases hh.1 with hh1 | hh1
    ·exact absurd hh1 h2
    ·exact hh1
   ·rintro ⟨h1,h2⟩
    refine ⟨⟨h1,fun hq=>h2 ⟨.inl hq,?_⟩⟩,fun hh=>h2 ⟨.inr hh.1,hh.2⟩⟩
    obtain ⟨q1,q2⟩:=Prod.mk.inj hq
    rw [q1,q2]; exact hs
theorem n32' {b:Bldg}:∀ {l:List Entry} {X:Rnd},roomV b X.img=false→(regL b l X).img=X.img
 | [],_,_=>rfl
 | e :: t,X,h=>by
  have e1:(stepG b e X).img=X.img:=by unfold stepG; rw [h]; rfl
  show (regL b t (stepG b e X)).img=X.img
  rw [n32' (by rw [e1]; exact h),e1]
theorem ny1' {b:Bldg}:∀ {l:List Entry} {X:Rnd},(regL b l X).lan=X.lan
 | [],_=>rfl
 | e :: t,X=>by
  show (regL b t (stepG b e X)).lan=X.lan
  rw [ny1']
  unfold stepG
  cases roomV b X.img <;> rfl
structure RegBits (b:Bldg) (was:Int×Int) (l:List Entry) (X:Rnd):Prop where
 bits:∀ f:Nat,f < 32→∀ d:Int,(d=1∨d=2)→(bitC (niy' was (regL b l X)) f d=true↔bitC (niy' was X) f d=true∨(((f:Int),d) ∈ l.map nbx'∧bitC (regL b l X).ref f d=false))
 up:∀ f:Nat,f < 32→∀ d:Int,(d=1∨d=2)→bitC X.ref f d=true→bitC (regL b l X).ref f d=true
 down:∀ f:Nat,f < 32→∀ d:Int,(d=1∨d=2)→bitC (regL b l X).ref f d=true→bitC X.ref f d=true∨((f:Int),d) ∈ l.map nbx'
 u32:u32C X.ref→u32C (regL b l X).ref
 room:(regL b l X).ref=X.ref∨roomV b (regL b l X).img=false
theorem nsv' {b:Bldg} {was:Int×Int}:∀ {l:List Entry} {X:Rnd},(∀ e ∈ l,callE e)→(l.map nbx').Pairwise ltC→(∀ e ∈ l,bitC X.ref e.Floor.toNat e.Dir=false)→RegBits b was l X
 | [],X,_,_,_=>⟨fun f _ d _=>by simp [regL],fun _ _ _ _ h=>h,fun _ _ _ _ h=>.inl h,fun h=>h,.inl rfl⟩
 | e :: t,X,hc,hp,hr=>by
  have he:=hc e (List.mem_cons_self ..)
  have hct:=fun x hx=>hc x (List.mem_cons_of_mem _ hx)
  rw [List.map_cons] at hp
  obtain ⟨hp1,hp2⟩:=List.pairwise_cons.1 hp
  have hne:(e.Floor,e.Dir) ∉ t.map nbx':=fun h=>nv2' _ (hp1 _ h)
  have h0:=hr e (List.mem_cons_self ..)
  have hrt:=fun x hx=>hr x (List.mem_cons_of_mem _ hx)
  have hR:regL b (e :: t) X=regL b t (stepG b e X):=rfl
  cases hroom:roomV b X.img with
  | true=>
   have e1:stepG b e X=stepW (regR e) X:=by unfold stepG; rw [hroom]; rfl
   have e2:(stepG b e X).ref=X.ref:=by rw [e1]; rfl
   have e3:niy' was (stepG b e X)=ncl' (niy' was X) (oneC e.Floor e.Dir):=by
    rw [e1]
    unfold niy' stepW
    simp only
    rw [List.foldl_append]
    rfl
   have ih:=nsv' (b:=b) (was:=was) (X:=stepG b e X) hct hp2 (by rw [e2]; exact hrt)
   have iu:=ih.up
   have idn:=ih.down
   have iu32:=ih.u32
   have irm:=ih.room
   rw [e2] at iu idn iu32 irm
   rw [← hR] at iu idn iu32 irm
   refine ⟨fun f hf d hd=>?_,iu,fun f hf d hd h=>(idn f hf d hd h).imp id (List.mem_cons_of_mem _),iu32,irm⟩
   have hb:=ih.bits f hf d hd
   rw [← hR,e3,nfq',njl' he.1 he.2 f hd,Bool.or_eq_true,decide_eq_true_eq] at hb
   rw [hb,List.map_cons,List.mem_cons]
   constructor
   ·rintro ((h | h) | ⟨h1,h2⟩)
    ·exact .inl h
    ·refine .inr ⟨.inl h,?_⟩
     cases hq:bitC (regL b (e :: t) X).ref f d with
     | false=>rfl
     | true=>
      obtain ⟨q1,q2⟩:=Prod.mk.inj h
      rcases idn f hf d hd hq with hh | hh
      ·rw [show f=e.Floor.toNat by omega,q2,h0] at hh; cases hh
      ·rw [h] at hh; exact absurd hh hne
    ·exact .inr ⟨.inr h1,h2⟩
   ·rintro (h | ⟨h1 | h1,h2⟩)
    ·exact .inl (.inl h)
    ·exact .inl (.inr h1)
    ·exact .inr ⟨h1,h2⟩
  | false=>
   have e1:stepG b e X=⟨X.recs,X.img,X.xs,X.lan,ncl' X.ref (oneC e.Floor e.Dir)⟩:=by unfold stepG; rw [hroom]; rfl
   have e2:(stepG b e X).ref=ncl' X.ref (oneC e.Floor e.Dir):=by rw [e1]
   have e3:niy' was (stepG b e X)=niy' was X:=by rw [e1]; rfl
   have hx:∀ f:Nat,f < 32→∀ d:Int,(d=1∨d=2)→(bitC (stepG b e X).ref f d=true↔bitC X.ref f d=true∨((f:Int),d)=(e.Floor,e.Dir)):=fun f hf d hd=>by
    rw [e2,nfq',njl' he.1 he.2 f hd,Bool.or_eq_true,decide_eq_true_eq]
   have ih:=nsv' (b:=b) (was:=was) (X:=stepG b e X) hct hp2 (fun x hxt=>by
    have hce:=hct x hxt
    cases hq:bitC (stepG b e X).ref x.Floor.toNat x.Dir with
    | false=>rfl
    | true=>
     rcases (hx x.Floor.toNat (by have:=hce.1; omega) x.Dir hce.2).1 hq with hh | hh
     ·rw [hrt x hxt] at hh; cases hh
     ·exfalso
      refine hne (List.mem_map.2 ⟨x,hxt,?_⟩)
      rw [← hh]
      show (x.Floor,x.Dir)=_
      rw [Int.toNat_of_nonneg hce.1.1])
   refine ⟨fun f hf d hd=>?_,fun f hf d hd h=>?_,fun f hf d hd h=>?_,fun _=>?_,.inr ?_⟩
   ·have hb:=ih.bits f hf d hd
    rw [← hR,e3] at hb
    rw [hb,List.map_cons,List.mem_cons]
    constructor
    ·rintro (h | ⟨h1,h2⟩)
     ·exact .inl h
     ·exact .inr ⟨.inr h1,h2⟩
    ·rintro (h | ⟨h1 | h1,h2⟩)
     ·exact .inl h
     ·exfalso
      have:=ih.up f hf d hd ((hx f hf d hd).2 (.inr h1))
      rw [← hR,h2] at this
      cases this
     ·exact .inr ⟨h1,h2⟩
   ·rw [hR]
    exact ih.up f hf d hd ((hx f hf d hd).2 (.inl h))
   ·rw [hR] at h
    rw [List.map_cons,List.mem_cons]
    rcases ih.down f hf d hd h with hh | hh
    ·rcases (hx f hf d hd).1 hh with h3 | h3
     ·exact .inl h3
     ·exact .inr (.inl h3)
    ·exact .inr (.inr hh)
   ·rw [hR]
    exact ih.u32 (by rw [e2]; exact nom' _ _)
   ·have e4:(stepG b e X).img=X.img:=by rw [e1]
    rw [hR,n32' (by rw [e4]; exact hroom),e4]
    exact hroom
theorem nx4' {c:Int×Int} {f:Nat} (hf:f < 32) {d:Int} (hd:d=1∨d=2):((f:Int),d) ∈ (listC c).map nbx'↔bitC c f d=true:=by
 unfold listC
 rw [mem_range]
 constructor
 ·rintro ⟨g,_,h1,_,h3⟩
  have hg:g=f:=by have:(f:Int)=(g:Int):=h1; omega
  rw [hg] at h3
  exact h3
 ·intro h
  exact ⟨f,⟨by omega,by omega⟩,rfl,hd,h⟩
section
variable {b:Bldg} {m:Img} {vs:List View} {xs:List Int} (h:Plan22 b m vs xs) (ps:List Calls) (press:Int×Int)
include h
theorem nog':Agree (ofC m.Entries (0,0)) m:=fun f _ d hd=>by
 have hc:∀ e ∈ m.Entries,callE e:=fun e he=>nny' h.small (ncx'.1 (h.img.en e he)).1
 rw [nvh' hc f hd,nes']
 simp
theorem n7s' (good:Bool):ofC (tickV b m xs vs ps press good).img.Entries (0,0)=niy' (ofC m.Entries (0,0)) (tickX b m xs vs ps press good):=by
 have hfr:=n2j' h ps press good
 have hk:=nt6' b (tickX b m xs vs ps press good).img (tickX b m xs vs ps press good).xs vs
 obtain ⟨a1,a2,a3⟩:=nqn' h.small (tickV b m xs vs ps press good).recs (nog' h) (nrv' _ njn') h.img hfr.val
 rw [← hfr.img] at a1 a3
 have hc:∀ e ∈ (tickV b m xs vs ps press good).img.Entries,callE e:=fun e he=>nny' h.small (ncx'.1 (a3.en e he)).1
 have e1:(tickV b m xs vs ps press good).recs.foldl wstep (ofC m.Entries (0,0))=niy' (ofC m.Entries (0,0)) (tickX b m xs vs ps press good):=by
  show ((tickX b m xs vs ps press good).recs++(planV b (tickX b m xs vs ps press good).img (tickX b m xs vs ps press good).xs vs).1).foldl wstep _=_
  rw [List.foldl_append,nwv' _ hk]
  rfl
 rw [← e1]
 refine noc' (nrv' _ njn') a2 fun f hf d hd=>?_
 rw [Bool.eq_iff_iff,nvh' hc f hd,a1 f hf d hd,nes']
 simp
theorem n12':ofC (tickV b m xs vs ps press true).img.Entries (0,0)=ncl' (nbf' (ofC m.Entries (0,0)) (ncd' b vs ps).cl) (nbf' (nkf' b m press) (tickV b m xs vs ps press true).ref)∧isZ (nbf' (tickV b m xs vs ps press true).ref (nkf' b m press))=true∧((tickV b m xs vs ps press true).ref=(0,0)∨roomV b (tickX b m xs vs ps press true).img=false)∧(tickV b m xs vs ps press true).lan=ncd' b vs ps∧u32C (tickV b m xs vs ps press true).ref:=by
 have hc:∀ e ∈ m.Entries,callE e:=fun e he=>nny' h.small (ncx'.1 (h.img.en e he)).1
 have hX:tickX b m xs vs ps press true=regL b (listC (nkf' b m press)) (wrL (servL b vs m.Entries) ⟨[],m,xs,ncd' b vs ps,(0,0)⟩):=rfl
 have hT:(tickV b m xs vs ps press true).ref=(tickX b m xs vs ps press true).ref:=rfl
 have rb:=nsv' (b:=b) (was:=ofC m.Entries (0,0)) (l:=listC (nkf' b m press)) (X:=wrL (servL b vs m.Entries) ⟨[],m,xs,ncd' b vs ps,(0,0)⟩) (fun e he=>by
  obtain ⟨h1,h2,_⟩:=nq4' he
  exact ⟨h1,h2⟩) (nrd' _ 32 0) (fun e _=>nes' _ _)
 have e0:∀ f:Nat,f < 32→∀ d:Int,(d=1∨d=2)→(bitC (tickX b m xs vs ps press true).ref f d=true→bitC (nkf' b m press) f d=true):=fun f hf d hd hh=>by
  have hdn:=rb.down f hf d hd
  rw [← hX] at hdn
  rcases hdn hh with hq | hq
  ·rw [show bitC (wrL (servL b vs m.Entries) ⟨[],m,xs,ncd' b vs ps,(0,0)⟩).ref f d=false from nes' f d] at hq; cases hq
  ·exact (nx4' hf hd).1 hq
 refine ⟨?_,?_,?_,?_,?_⟩
 ·rw [n7s' h ps press true,hT]
  refine noc' (nqn' h.small _ (nog' h) (nrv' _ njn') h.img (nu2' h ps press true).val).2.1 (nom' _ _) fun f hf d hd=>?_
  have hb:=rb.bits f hf d hd
  have hs:=nwj' b vs hf hd (l:=m.Entries) (c:=ofC m.Entries (0,0)) hc
  have hag:=nog' h f hf d hd
  have e2:niy' (ofC m.Entries (0,0)) (wrL (servL b vs m.Entries) ⟨[],m,xs,ncd' b vs ps,(0,0)⟩)=(servL b vs m.Entries).foldl wstep (ofC m.Entries (0,0)):=rfl
  rw [e2,← hX] at hb
  rw [Bool.eq_iff_iff,hb,hs,nfq',nd8' _ _ hf,nd8' _ _ hf,n4y' b vs ps hf d,nx4' hf hd,Bool.or_eq_true,Bool.and_eq_true,Bool.and_eq_true,Bool.not_eq_true',Bool.not_eq_true']
  constructor
  ·rintro (⟨h1,h2⟩ | h1)
   ·refine .inl ⟨h1,?_⟩
    cases hq:servB b vs (f:Int) d with
    | false=>rfl
    | true=>exact absurd ⟨hag.1 h1,hq⟩ h2
   ·exact .inr h1
  ·rintro (⟨h1,h2⟩ | h1)
   ·refine .inl ⟨h1,fun hh=>?_⟩
    rw [h2] at hh; cases hh.2
   ·exact .inr h1
 ·rw [hT]
  refine (nve' (nxe' _ _)).2 fun f hf d hd=>?_
  rw [nd8' _ _ hf]
  cases hq:bitC (tickX b m xs vs ps press true).ref f d with
  | false=>rfl
  | true=>rw [e0 f hf d hd hq]; rfl
 ·rw [hT]
  have hrm:=rb.room
  rw [← hX] at hrm
  exact hrm
 ·show (tickX b m xs vs ps press true).lan=_
  rw [hX,ny1']
  rfl
 ·rw [hT,hX]
  exact rb.u32 njn'
end
end Go.Ovl
namespace Go.Ovl
open Go Go.Ab
set_option maxRecDepth 100000
end Go.Ovl
namespace Go.Ovl
open Go Go.Ab
set_option maxRecDepth 100000
theorem nz3' {b:Bldg} (hb:b.small) (m:Img) (hc:b.Cars.length≤100000) (hp:m.Phases.length≤100000) (hl:m.Entries.length≤100000) :
  nmn' b.Floors b.Debounce b.Room b.Park b.Empty b.Full b.Over b.Cars m.Phases m.Flags m.Leaving m.Entries=some ((roomV b m,()),()):=by
 have hmx:100000≤maxLen:=by decide
 unfold nmn' roomV
 rw [ngk' hb m (by omega) (by omega)]
 simp only [Option.bind_some,roomW hc hl]
 cases m.ok b <;> rfl
end Go.Ovl
