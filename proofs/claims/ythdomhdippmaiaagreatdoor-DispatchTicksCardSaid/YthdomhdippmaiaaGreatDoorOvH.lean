/- Layer 24: the round of a tick by the reference. -/
import Derived.Test.YthdomhdippmaiaaGreatDoorOvG
import Derived.Test.YthdomhdippmaiaaGreatDoorOvC
import Derived.Test.YthdomhdippmaiaaGreatDoorOvF
namespace Go.Ovl
open Go Go.Ab
set_option maxRecDepth 100000
theorem bindq {α β:Type} {o:Option α} {a:α} {f:α→Option β} {r:Option β} (h:o=some a) (h2:f a=r):Option.bind o f=r:=by
 subst h; exact h2
theorem nxk' {m:Img} (hs:nbc' m.Entries) (hl:m.Entries.length≤1000) {xs:List Int} (hx:xs.length=m.Entries.length) (F D:Int):nk0' m.Phases m.Flags m.Leaving m.Entries xs F D=some ((numK m.Entries xs F D,()),()):=by
 have hfp:=nju' (c:=keyE F D) 0 hs
 rw [Nat.zero_add] at hfp
 have hfp':findF F D m.Entries 0=_:=hfp
 unfold nk0' numK
 rw [noo' m (by omega),hfp']
 cases hh:hasF (keyE F D) m.Entries with
 | false=>rfl
 | true=>
  obtain ⟨p1,_⟩:=nr2' hh
  simp only [cond_true,Option.bind_some]
  rw [decide_eq_true (show (0:Int)≤((posF (keyE F D) m.Entries:Nat):Int) by omega),nc' (show (0:Int)≤((posF (keyE F D) m.Entries:Nat):Int) by omega) (show ((posF (keyE F D) m.Entries:Nat):Int) < (xs.length:Int) by omega),Int.toNat_natCast]
  rfl
theorem nx1' {m:Img} (hs:nbc' m.Entries) (hl:m.Entries.length≤1000) {xs:List Int} (hx:xs.length=m.Entries.length) {q:Img} (hq:q.Entries.length≤1000):nls' m.Phases m.Flags m.Leaving m.Entries xs q.Phases q.Flags q.Leaving q.Entries=some ((q.Entries.map (numV m.Entries xs),()),()):=by
 have key:∀ (k i:Nat) (out:List Int),i + k=q.Entries.length→out.length=i→iter (fun x=>nfh' x.1.1 x.1.2.2.2.1 x.1.2.2.2.2.1 x.2.1.1 x.2.1.2.1 x.2.1.2.2.1 x.2.1.2.2.2.1 x.2.2.1.1 x.2.2.1.2.1 x.2.2.1.2.2.1 x.2.2.1.2.2.2.1) (k + 1) ((xs,(),(),out,(i:Int),()),(m.tup,q.tup,()))=some ((out++(q.Entries.drop i).map (numV m.Entries xs),()),()):=by
  intro k
  induction k with
  | zero=>
   intro i out hi _
   obtain rfl:i=q.Entries.length:=by omega
   refine ni' ?_
   show nfh' xs out (q.Entries.length:Int) m.Phases m.Flags m.Leaving m.Entries q.Phases q.Flags q.Leaving q.Entries=_
   unfold nfh'
   rw [decide_eq_false (Int.lt_irrefl (q.Entries.length:Int)),List.drop_length,List.map_nil,List.append_nil]
   rfl
  | succ k ih=>
   intro i out hi ho
   have hi':i < q.Entries.length:=by omega
   have hs1:nfh' xs out (i:Int) m.Phases m.Flags m.Leaving m.Entries q.Phases q.Flags q.Leaving q.Entries=some (.inl ((xs,(),(),out++[numV m.Entries xs (q.Entries.getD i noE)],((i + 1:Nat):Int),()),(m.tup,q.tup,()))):=by
    unfold nfh'
    rw [show Entry.mk 0 0 0 0 false=noE from rfl]
    simp only [decide_eq_true (show (i:Int) < (q.Entries.length:Int) by omega),nc' (show (0:Int)≤(i:Int) by omega) (show (i:Int) < (q.Entries.length:Int) by omega),cond_true,Int.toNat_natCast]
    refine bindq (nxk' hs hl hx _ _) ?_
    rw [n2' (show out.length + [numK m.Entries xs (q.Entries.getD i noE).Floor (q.Entries.getD i noE).Dir].length≤2147483648 by show out.length + 1≤_; omega),wrap1 hi' (show q.Entries.length≤nr' by unfold nr'; omega)]
    rfl
   refine (ns' hs1).trans ?_
   rw [ih (i + 1) _ (by omega) (by rw [List.length_append,List.length_singleton]; omega),n3' noE hi',List.map_cons,List.append_assoc,List.singleton_append]
 have h:=key q.Entries.length 0 [] (by omega) rfl
 rw [List.drop_zero,List.nil_append] at h
 have h':ni6' ((xs,(),(),([]:List Int),(0:Int),()),(m.tup,q.tup,()))=_:=nf' h (by omega)
 unfold nls'
 exact bindq h' rfl
section
variable {b:Bldg} (hb:b.small) (hcode:b.code=0)
include hb hcode
theorem noz' {X:Rnd} (hX:X.ok b) {l:List Record} (hl:l.length≤10000) (hv:∀ r ∈ l,n0' b r=true) (hxs:xsL X.img X.xs l=(nbn' X.img l).Entries.map (numV X.img.Entries X.xs)) (hr:X.recs.length≤100000):nfv' b.Floors b.Debounce b.Room b.Park b.Empty b.Full b.Over b.Cars X.recs X.img.Phases X.img.Flags X.img.Leaving X.img.Entries X.xs X.lan.lit X.lan.gong X.lan.cl.1 X.lan.cl.2 X.ref.1 X.ref.2 l=some (((),()),((wrL l X).tup,())):=by
 have h1:=nxm' hb hcode hX.img hl
 rw [nqc' hv] at h1
 have hok:=(nqs' hX hv).img
 have he:=nb5' hb hX.img
 have he2:=nb5' hb hok
 have he3:(nbn' X.img l).Entries.length≤14:=he2
 have h2:=nx1' hX.img.so (by omega) hX.len (q:=nbn' X.img l) (by omega)
 rw [← hxs] at h2
 unfold nfv'
 refine bindq h1 (bindq h2 ?_)
 rw [n2' (show ([]:List Record).length + X.recs.length≤2147483648 by show 0 + X.recs.length≤_; omega),List.nil_append]
 show (bif Nat.ble (X.recs.length + l.length) 2147483648 then _ else _)=_
 rw [n2' (show X.recs.length + l.length≤2147483648 by omega)]
 rfl
theorem n6x' {X:Rnd} (hX:X.ok b) {e:Entry} (he:nh' b e.Floor e.Dir=true) (hr:X.recs.length≤100000):nfv' b.Floors b.Debounce b.Room b.Park b.Empty b.Full b.Over b.Cars X.recs X.img.Phases X.img.Flags X.img.Leaving X.img.Entries X.xs X.lan.lit X.lan.gong X.lan.cl.1 X.lan.cl.2 X.ref.1 X.ref.2 [regR e]=some (((),()),((stepW (regR e) X).tup,())):=by
 rw [← n4h']
 refine noz' hb hcode hX (by show 1≤10000; omega) (fun r hr=>?_) ?_ hr
 ·rw [List.mem_singleton.1 hr]; exact nod' he
 ·exact nqx' hX.img.so hX.len (regR e)
end
def stepF (b:Bldg) (m:Img) (e:Entry) (X:Rnd):Rnd:=bif decide (0≤findF e.Floor e.Dir m.Entries 0) then X else stepG b e X
def regF (b:Bldg) (m:Img):List Entry→Rnd→Rnd
 | [],X=>X
 | e :: t,X=>regF b m t (stepF b m e X)
theorem nsu' (b:Bldg) (m:Img):∀ (l k:List Entry) (X:Rnd),regF b m (l++k) X=regF b m k (regF b m l X)
 | [],_,_=>rfl
 | e :: t,k,X=>nsu' b m t k (stepF b m e X)
theorem nta' (b:Bldg):∀ (l k:List Entry) (X:Rnd),regL b (l++k) X=regL b k (regL b l X)
 | [],_,_=>rfl
 | e :: t,k,X=>nta' b t k (stepG b e X)
theorem nz0' {b:Bldg} {m:Img} {vs:List View} {xs:List Int} (h:Plan22 b m vs xs) {f:Nat} (hf:f < 32) {d:Int} (hd:d=1∨d=2):decide (0≤findF (f:Int) d m.Entries 0)=bitC (ofC m.Entries (0,0)) f d:=by
 have ha:=nog' h f hf d hd
 rw [Bool.eq_iff_iff,ha,decide_eq_true_eq]
 rcases nik' (f:Int) d m.Entries 0 with ⟨h1,h2⟩ | ⟨k,h1,h2,h3⟩
 ·rw [h1]
  constructor
  ·intro q; omega
  ·intro q
   obtain ⟨e,he,hq⟩:=List.mem_map.1 q
   have:=h2 e he
   rw [nrt'.2 hq] at this
   cases this
 ·rw [h2]
  constructor
  ·intro _
   exact List.mem_map.2 ⟨_,ncq' noE h1,nrt'.1 h3⟩
  ·intro _; omega
theorem n7y' {b:Bldg} {m:Img} {vs:List View} {xs:List Int} (h:Plan22 b m vs xs) (c:Int×Int) {f:Nat} (hf:f < 32) (X:Rnd):regF b m (nc6' c f) X=regL b (nc6' (nbf' c (ofC m.Entries (0,0))) f) X:=by
 have f1:=nz0' h hf (d:=1) (.inl rfl)
 have f2:=nz0' h hf (d:=2) (.inr rfl)
 have b1:=nd8' c (ofC m.Entries (0,0)) hf (d:=1)
 have b2:=nd8' c (ofC m.Entries (0,0)) hf (d:=2)
 unfold nc6'
 rw [b1,b2,nsu',nta']
 have one:∀ (d:Int) (u v:Bool),decide (0≤findF (f:Int) d m.Entries 0)=v→∀ Y:Rnd,regF b m (bif u then [⟨(f:Int),d,-1,0,false⟩] else []) Y=regL b (bif (u&&!v) then [⟨(f:Int),d,-1,0,false⟩] else []) Y:=fun d u v hv Y=>by
  cases u with
  | false=>rfl
  | true=>
   show stepF b m ⟨(f:Int),d,-1,0,false⟩ Y=_
   unfold stepF
   simp only
   rw [hv]
   cases v <;> rfl
 rw [one 1 (bitC c f 1) _ f1,one 2 (bitC c f 2) _ f2]
theorem n26' {b:Bldg} {m:Img} {vs:List View} {xs:List Int} (h:Plan22 b m vs xs) (c:Int×Int) (X:Rnd):regF b m (listC c) X=regL b (listC (nbf' c (ofC m.Entries (0,0)))) X:=by
 have key:∀ (k i:Nat) (Y:Rnd),i + k≤32→regF b m ((List.range' i k).flatMap (nc6' c)) Y=regL b ((List.range' i k).flatMap (nc6' (nbf' c (ofC m.Entries (0,0))))) Y:=by
  intro k
  induction k with
  | zero=>exact fun _ _ _=>rfl
  | succ k ih=>
   intro i Y hi
   rw [List.range'_succ,List.flatMap_cons,List.flatMap_cons,nsu',nta',n7y' h c (show i < 32 by omega),ih (i + 1) _ (by omega)]
 exact key 32 0 X (by omega)
theorem n3s' {c:Int×Int} (h:∀ f:Nat,f < 32→∀ d:Int,bitC c f d=false):listC c=[]:=by
 have key:∀ (k i:Nat),i + k≤32→(List.range' i k).flatMap (nc6' c)=[]:=by
  intro k
  induction k with
  | zero=>exact fun _ _=>rfl
  | succ k ih=>
   intro i hi
   rw [List.range'_succ,List.flatMap_cons,ih (i + 1) (by omega)]
   unfold nc6'
   rw [h i (by omega) 1,h i (by omega) 2]
   rfl
 exact key 32 0 (by omega)
theorem n4u' {b:Bldg} (hb:b.small) (hcode:b.code=0) {press:Int×Int} {e:Entry} (h:e ∈ listC (bothC press (hallC b))):nh' b e.Floor e.Dir=true:=by
 obtain ⟨h1,h2,h3⟩:=nq4' h
 rw [nl2',Bool.and_eq_true,ns7' hb hcode (by omega) h2,Int.toNat_of_nonneg h1.1] at h3
 exact h3.2
theorem n7q' {b:Bldg} {m:Img} {X:Rnd} (h:X.ok b) {e:Entry} (he:nh' b e.Floor e.Dir=true):(stepF b m e X).ok b:=by
 unfold stepF
 cases decide (0≤findF e.Floor e.Dir m.Entries 0) with
 | true=>exact h
 | false=>exact nsr' h he
theorem n2y' (b:Bldg) (m:Img) (e:Entry) (X:Rnd):(stepF b m e X).recs.length≤X.recs.length + 1:=by
 unfold stepF
 cases decide (0≤findF e.Floor e.Dir m.Entries 0) with
 | true=>exact Nat.le_succ _
 | false=>exact nrk' b [e] X
def Rnd.none:Rnd:=⟨[],Img.none,[],Lan.none,(0,0)⟩
section
variable {b:Bldg} (hb:b.small) (hcode:b.code=0)
include hb hcode
theorem n39' {m:Img} (hm:ImgOK b m) (vs:List View) {l:List Entry} (hl:l.length≤64) {i:Nat} (hi:i < l.length) (hv:nh' b (l.getD i noE).Floor (l.getD i noE).Dir=true) {X:Rnd} (hX:X.ok b) (hr:X.recs.length≤10000):ngv' vs l (i:Int) b.Floors b.Debounce b.Room b.Park b.Empty b.Full b.Over b.Cars m.Phases m.Flags m.Leaving m.Entries [] [] [] [] [] [] [] [] 0 0 0 0 X.recs X.img.Phases X.img.Flags X.img.Leaving X.img.Entries X.xs X.lan.lit X.lan.gong X.lan.cl.1 X.lan.cl.2 X.ref.1 X.ref.2=some (.inl ((vs,(),(),(),(),l,((i + 1:Nat):Int),()),(b.tup,m.tup,Rnd.none.tup,(stepF b m (l.getD i noE) X).tup,()))):=by
 have hcc:=net' hcode
 have he:=nb5' hb hm
 have heX:=nb5' hb hX.img
 have hlp:=hX.img.lp
 have hf:=noo' m (by omega) (l.getD i noE).Floor (l.getD i noE).Dir
 have hrm:=nz3' hb X.img (by omega) (by omega) (by omega)
 have hw:=n6x' hb hcode hX hv (by omega)
 unfold ngv'
 rw [show Entry.mk 0 0 0 0 false=noE from rfl]
 simp only [decide_eq_true (show (i:Int) < (l.length:Int) by omega),nc' (show (0:Int)≤(i:Int) by omega) (show (i:Int) < (l.length:Int) by omega),cond_true,Int.toNat_natCast,wrap1 hi (show l.length≤nr' by unfold nr'; omega)]
 generalize l.getD i noE=e at *
 refine bindq hf ?_
 unfold stepF
 cases hq:decide (0≤findF e.Floor e.Dir m.Entries 0) with
 | true=>rfl
 | false=>
  refine bindq hrm ?_
  unfold stepG
  cases hz:roomV b X.img with
  | false=>
   refine bindq (nu3' e.Floor e.Dir) ?_
   refine bindq (nrg' X.ref (oneC e.Floor e.Dir)) ?_
   rfl
  | true=>
   refine bindq hw ?_
   show some (Sum.inl ((vs,(),(),(),(),l,IntKind.i64.wrap ((i:Int) + 1),()),_))=_
   rw [wrap1 hi (show l.length≤nr' by unfold nr'; omega)]
   rfl
theorem nwd' {m:Img} (hm:ImgOK b m) (vs:List View) {l:List Entry} (hl:l.length≤64) (hv:∀ e ∈ l,nh' b e.Floor e.Dir=true) {X:Rnd} (hX:X.ok b) (hr:X.recs.length≤1000):nkd' ((vs,(),(),(),(),l,(0:Int),()),(b.tup,m.tup,Rnd.none.tup,X.tup,()))=some ((vs,(),(),(),()),(b.tup,Rnd.none.tup,(regF b m l X).tup,())):=by
 have key:∀ (k i:Nat) (Y:Rnd),i + k=l.length→Y.ok b→Y.recs.length≤1000 + i→iter (fun x=>ngv' x.1.1 x.1.2.2.2.2.2.1 x.1.2.2.2.2.2.2.1 x.2.1.1 x.2.1.2.1 x.2.1.2.2.1 x.2.1.2.2.2.1 x.2.1.2.2.2.2.1 x.2.1.2.2.2.2.2.1 x.2.1.2.2.2.2.2.2.1 x.2.1.2.2.2.2.2.2.2.1 x.2.2.1.1 x.2.2.1.2.1 x.2.2.1.2.2.1 x.2.2.1.2.2.2.1 x.2.2.2.1.1 x.2.2.2.1.2.1 x.2.2.2.1.2.2.1 x.2.2.2.1.2.2.2.1 x.2.2.2.1.2.2.2.2.1 x.2.2.2.1.2.2.2.2.2.1 x.2.2.2.1.2.2.2.2.2.2.1 x.2.2.2.1.2.2.2.2.2.2.2.1 x.2.2.2.1.2.2.2.2.2.2.2.2.1 x.2.2.2.1.2.2.2.2.2.2.2.2.2.1 x.2.2.2.1.2.2.2.2.2.2.2.2.2.2.1 x.2.2.2.1.2.2.2.2.2.2.2.2.2.2.2.1 x.2.2.2.2.1.1 x.2.2.2.2.1.2.1 x.2.2.2.2.1.2.2.1 x.2.2.2.2.1.2.2.2.1 x.2.2.2.2.1.2.2.2.2.1 x.2.2.2.2.1.2.2.2.2.2.1 x.2.2.2.2.1.2.2.2.2.2.2.1 x.2.2.2.2.1.2.2.2.2.2.2.2.1 x.2.2.2.2.1.2.2.2.2.2.2.2.2.1 x.2.2.2.2.1.2.2.2.2.2.2.2.2.2.1 x.2.2.2.2.1.2.2.2.2.2.2.2.2.2.2.1 x.2.2.2.2.1.2.2.2.2.2.2.2.2.2.2.2.1) (k + 1) ((vs,(),(),(),(),l,(i:Int),()),(b.tup,m.tup,Rnd.none.tup,Y.tup,()))=some ((vs,(),(),(),()),(b.tup,Rnd.none.tup,(regF b m (l.drop i) Y).tup,())):=by
  intro k
  induction k with
  | zero=>
   intro i Y hi _ _
   obtain rfl:i=l.length:=by omega
   refine ni' ?_
   show ngv' vs l (l.length:Int) b.Floors b.Debounce b.Room b.Park b.Empty b.Full b.Over b.Cars m.Phases m.Flags m.Leaving m.Entries [] [] [] [] [] [] [] [] 0 0 0 0 Y.recs Y.img.Phases Y.img.Flags Y.img.Leaving Y.img.Entries Y.xs Y.lan.lit Y.lan.gong Y.lan.cl.1 Y.lan.cl.2 Y.ref.1 Y.ref.2=_
   unfold ngv'
   rw [decide_eq_false (Int.lt_irrefl (l.length:Int)),List.drop_length]
   rfl
  | succ k ih=>
   intro i Y hi hY hr
   have hi':i < l.length:=by omega
   have hv':=hv _ (ncq' noE hi')
   have hrs:=n2y' b m (l.getD i noE) Y
   rw [n3' noE hi']
   exact (ns' (n39' hb hcode hm vs hl hi' hv' hY (by omega))).trans (ih (i + 1) _ (by omega) (n7q' hY hv') (by omega))
 have h:=key l.length 0 X (by omega) hX (by omega)
 rw [List.drop_zero] at h
 exact nf' h (by omega)
end
end Go.Ovl
namespace Go.Ovl
open Go Go.Ab
set_option maxRecDepth 100000
section
variable {b:Bldg} {m:Img} {vs:List View} {xs:List Int} (h:Plan22 b m vs xs) {ps:List Calls} (hp:ps.length=b.Cars.length) (press:Int×Int)
include h
theorem nv7' (good:Bool):nkx' b.Floors b.Debounce b.Room b.Park b.Empty b.Full b.Over b.Cars (tickX b m xs vs ps press good).img.Phases (tickX b m xs vs ps press good).img.Flags (tickX b m xs vs ps press good).img.Leaving (tickX b m xs vs ps press good).img.Entries (tickX b m xs vs ps press good).xs vs=some (tickP b m xs vs ps press good,()):=by
 have hcc:=h.cars
 have hvl:=h.made.len
 have hmx:100000≤maxLen:=by decide
 obtain ⟨hok,_⟩:=nk8' h.small h.code h.img h.xlen (vs:=vs) ps press good
 have hXl:=nb5' h.small hok.img
 have hXp:=hok.img.lp
 have hXx:=hok.len
 exact n0p' h.small h.made.ok (by omega) (tickX b m xs vs ps press good).img (by omega) (by omega) (tickX b m xs vs ps press good).xs (by omega)
theorem ny6' (good:Bool):nfv' b.Floors b.Debounce b.Room b.Park b.Empty b.Full b.Over b.Cars (tickX b m xs vs ps press good).recs (tickX b m xs vs ps press good).img.Phases (tickX b m xs vs ps press good).img.Flags (tickX b m xs vs ps press good).img.Leaving (tickX b m xs vs ps press good).img.Entries (tickX b m xs vs ps press good).xs (tickX b m xs vs ps press good).lan.lit (tickX b m xs vs ps press good).lan.gong (tickX b m xs vs ps press good).lan.cl.1 (tickX b m xs vs ps press good).lan.cl.2 (tickX b m xs vs ps press good).ref.1 (tickX b m xs vs ps press good).ref.2 (tickP b m xs vs ps press good).1=some (((),()),((wrL (tickP b m xs vs ps press good).1 (tickX b m xs vs ps press good)).tup,())):=by
 obtain ⟨hok,hrl⟩:=nk8' h.small h.code h.img h.xlen (vs:=vs) ps press good
 have hXl:=nb5' h.small hok.img
 have hv:∀ r ∈ (tickP b m xs vs ps press good).1,n0' b r=true:=not' h.code hok.img _
 have hk:∀ r ∈ (tickP b m xs vs ps press good).1,r.Kind=3∨r.Kind=7:=nt6' b _ _ vs
 have hpl:(tickP b m xs vs ps press good).1.length≤_:=(nw0' b (tickX b m xs vs ps press good).img (tickX b m xs vs ps press good).xs vs).1
 refine noz' h.small h.code hok (by omega) hv ?_ (by omega)
 exact nqy' hok.img hok.len fun r hr=>⟨hv r hr,by have:=hk r hr; omega⟩
include hp
theorem n0m' (good:Bool):nkh' b.Floors b.Debounce b.Room b.Park b.Empty b.Full b.Over b.Cars m.Phases m.Flags m.Leaving m.Entries xs vs ps press.1 press.2 good=some (((),0,()),((tickV b m xs vs ps press good).tup,())):=by
 have hb:=h.small
 have hcode:=h.code
 have hcc:=h.cars
 have hvl:=h.made.len
 have hmx:100000≤maxLen:=by decide
 have he:=nb5' hb h.img
 have hlp:=h.img.lp
 have hxl:=h.xlen
 have e1:=ngk' hb m (by omega) (by omega)
 rw [Img.ok_iff.2 h.img] at e1
 have e2:=nsm' m (xs:=xs) (by omega)
 rw [h.exp,show ((xs.length:Int)==(m.Entries.length:Int))=true by rw [h.xlen]; exact beq_self_eq_true _] at e2
 have n1:(((vs.length:Nat):Int) != ((b.Cars.length:Nat):Int))=false:=by rw [hvl,bne_self_eq_false]
 have n2:(((ps.length:Nat):Int) != ((b.Cars.length:Nat):Int))=false:=by rw [hp,bne_self_eq_false]
 have hH:=nsn' hb hcode
 have hX:∀ L:Lan,Rnd.ok b ⟨[],m,xs,L,(0,0)⟩:=fun L=>⟨h.img,h.xlen⟩
 unfold nkh'
 refine bindq e1 ?_
 refine bindq e2 ?_
 simp only [n1,n2,cond_false]
 cases good with
 | true=>
  have hlight:=nyk' hb hcode vs ps (by omega)
  have hlR:nh5' b vs ps=(ncd' b vs ps,0):=by
   unfold nh5'
   rw [show ((vs.length:Int)==(b.Cars.length:Int))=true by rw [hvl]; exact beq_self_eq_true _,show ((ps.length:Int)==(b.Cars.length:Int))=true by rw [hp]; exact beq_self_eq_true _]
   rfl
  rw [hlR] at hlight
  have hsv:=nln' hcode vs (l:=m.Entries) fun e he=>(ncx'.1 (h.img.en e he)).1
  have hsl:=noh' b vs m.Entries
  have hserve:=nyb' hb hcode h.img (by omega) vs (by omega)
  have hw1:=noz' hb hcode (hX (ncd' b vs ps)) (l:=servL b vs m.Entries) (by omega) (fun r hr=>(hsv r hr).1) (nqy' h.img h.xlen fun r hr=>⟨(hsv r hr).1,by rw [(hsv r hr).2]; omega⟩) (Nat.zero_le _)
  have hok1:(wrL (servL b vs m.Entries) ⟨[],m,xs,ncd' b vs ps,(0,0)⟩).ok b:=nqs' (hX _) fun r hr=>(hsv r hr).1
  have hlc:=nql' (bothC press (hallC b))
  have hloop:=nwd' hb hcode h.img vs hlc (fun e he=>n4u' hb hcode he) hok1 (by show ([]++servL b vs m.Entries).length≤_; rw [List.nil_append]; omega)
  rw [n26' h] at hloop
  have hpl:=nv7' h (ps:=ps) press true
  have hen:=ny6' h (ps:=ps) press true
  refine bindq (a:=((vs,(),(),(),(),(),()),(b.tup,m.tup,(press.1,press.2,()),Rnd.none.tup,(wrL (servL b vs m.Entries) ⟨[],m,xs,ncd' b vs ps,(0,0)⟩).tup,()))) ?_ ?_
  ·refine bindq hlight ?_
   refine bindq rfl ?_
   refine bindq hserve ?_
   exact bindq hw1 rfl
  refine bindq hH ?_
  refine bindq (nou' press (hallC b)) ?_
  refine bindq (nsp' (nnt' press (hallC b))) ?_
  refine bindq hloop ?_
  refine bindq hpl ?_
  refine bindq rfl ?_
  refine bindq hen ?_
  rfl
 | false=>
  have hz:listC (bothC (0,0) (hallC b))=[]:=n3s' fun f hf d=>by rw [nl2',nes']; rfl
  have hloop:=nwd' hb hcode h.img vs (l:=[]) (Nat.zero_le _) (fun e he=>by cases he) (hX (darkV vs.length)) (Nat.zero_le _)
  have hli:=nsp' (nnt' (0,0) (hallC b))
  rw [hz] at hli
  have hpl:=nv7' h (ps:=ps) press false
  have hen:=ny6' h (ps:=ps) press false
  refine bindq (a:=((vs,(),(),(),(),(),()),(b.tup,m.tup,(0,0,()),Rnd.none.tup,(⟨[],m,xs,darkV vs.length,(0,0)⟩:Rnd).tup,()))) ?_ ?_
  ·simp only [decide_eq_true (show (0:Int)≤(vs.length:Int) by omega),decide_eq_true (Int.le_refl (vs.length:Int)),decide_eq_true (show (vs.length:Int)≤2147483648 by omega),Bool.and_self,cond_true,cond_false,Int.toNat_natCast]
   rfl
  refine bindq hH ?_
  refine bindq (nou' (0,0) (hallC b)) ?_
  refine bindq hli ?_
  refine bindq hloop ?_
  refine bindq hpl ?_
  refine bindq rfl ?_
  refine bindq hen ?_
  rfl
end
end Go.Ovl
namespace Go.Ovl
open Go Go.Ab
set_option maxRecDepth 100000
def eqC2 (x y:Calls):Bool:=((x.Up==y.Up)&&((x.Down==y.Down)&&true))
theorem nyn' (x y:Calls):eqC2 x y=true↔x=y:=by
 cases x; cases y
 simp [eqC2]
theorem now' {a b:List Calls} (ha:a.length≤nr'):ncb' a b=some ((eqL a b,()),()):=by
 unfold ncb'
 by_cases hl:a.length=b.length
 ·rw [show (((a.length:Nat):Int) != ((b.length:Nat):Int))=false by simp [hl],cond_false]
  have h:=nf' (nc4' (step:=fun x=>n7' x.1.1 x.1.2.1 x.1.2.2.1 x.1.2.2.2.1) a.length (fun i=>((a,b,(a.length:Int),(i:Int),()),())) (fun i=>eqC2 (a.getD i noP) (b.getD i noP)) (Sum.inl ((),())) (Sum.inr ((false,()),())) (fun i hi=>by
   show n7' a b (a.length:Int) (i:Int)=_
   unfold n7'
   simp only [decide_eq_true (show (i:Int) < (a.length:Int) by omega),nc' (show (0:Int)≤(i:Int) by omega) (show (i:Int) < (a.length:Int) by omega),nc' (show (0:Int)≤(i:Int) by omega) (show (i:Int) < (b.length:Int) by omega),cond_true,Int.toNat_natCast,wrap1 hi ha]
   show (bif !(eqC2 (a.getD i noP) (b.getD i noP)) then _ else _)=_
   cases eqC2 (a.getD i noP) (b.getD i noP) <;> rfl) (by
   show n7' a b (a.length:Int) (a.length:Int)=_
   unfold n7'
   simp only [decide_eq_false (Int.lt_irrefl (a.length:Int)),cond_false]) a.length 0 (by omega)) (by unfold nr' at ha; omega)
  rw [ngq' eqC2 nyn' noP hl] at h
  rw [show nb2' ((a,b,(a.length:Int),(0:Int),()),())=_ from h]
  cases eqL a b <;> rfl
 ·rw [(ngx' a b).2 hl,new' hl]; rfl
theorem nn4' {a b:List Record} (ha:a.length≤nr'):nb4' a b=some ((eqL a b,()),()):=by
 unfold nb4'
 by_cases hl:a.length=b.length
 ·rw [show (((a.length:Nat):Int) != ((b.length:Nat):Int))=false by simp [hl],cond_false]
  have h:=nf' (nc4' (step:=fun x=>n4' x.1.1 x.1.2.1 x.1.2.2.1 x.1.2.2.2.1) a.length (fun i=>((a,b,(a.length:Int),(i:Int),()),())) (fun i=>eqRec (a.getD i noRec) (b.getD i noRec)) (Sum.inl ((),())) (Sum.inr ((false,()),())) (fun i hi=>by
   show n4' a b (a.length:Int) (i:Int)=_
   unfold n4'
   simp only [decide_eq_true (show (i:Int) < (a.length:Int) by omega),nc' (show (0:Int)≤(i:Int) by omega) (show (i:Int) < (a.length:Int) by omega),nc' (show (0:Int)≤(i:Int) by omega) (show (i:Int) < (b.length:Int) by omega),cond_true,Int.toNat_natCast,wrap1 hi ha]
   show (bif !(eqRec (a.getD i noRec) (b.getD i noRec)) then _ else _)=_
   cases eqRec (a.getD i noRec) (b.getD i noRec) <;> rfl) (by
   show n4' a b (a.length:Int) (a.length:Int)=_
   unfold n4'
   simp only [decide_eq_false (Int.lt_irrefl (a.length:Int)),cond_false]) a.length 0 (by omega)) (by unfold nr' at ha; omega)
  rw [ngq' eqRec nwp' noRec hl] at h
  rw [show nbw' ((a,b,(a.length:Int),(0:Int),()),())=_ from h]
  cases eqL a b <;> rfl
 ·rw [(ngx' a b).2 hl,new' hl]; rfl
theorem nx6' {a b:List Record} (ha:a.length≤nr'):nmv' a b=some ((eqL a b,()),()):=by
 unfold nmv'
 by_cases hl:a.length=b.length
 ·rw [show (((a.length:Nat):Int) != ((b.length:Nat):Int))=false by simp [hl],cond_false]
  have h:=nf' (nc4' (step:=fun x=>ngp' x.1.1 x.1.2.1 x.1.2.2.1) a.length (fun i=>((a,b,(i:Int),()),())) (fun i=>eqRec (a.getD i (Record.mk 0 0 0 0 0)) (b.getD i (Record.mk 0 0 0 0 0))) (Sum.inl ((),())) (Sum.inr ((false,()),())) (fun i hi=>by
   show ngp' a b (i:Int)=_
   unfold ngp' eqRec
   simp only [decide_eq_true (show (i:Int) < (a.length:Int) by omega),nc' (show (0:Int)≤(i:Int) by omega) (show (i:Int) < (a.length:Int) by omega),nc' (show (0:Int)≤(i:Int) by omega) (show (i:Int) < (b.length:Int) by omega),cond_true,Int.toNat_natCast,wrap1 hi ha]
   generalize ((a.getD i (Record.mk 0 0 0 0 0)).Kind==(b.getD i (Record.mk 0 0 0 0 0)).Kind&&((a.getD i (Record.mk 0 0 0 0 0)).Floor==(b.getD i (Record.mk 0 0 0 0 0)).Floor&&((a.getD i (Record.mk 0 0 0 0 0)).Dir==(b.getD i (Record.mk 0 0 0 0 0)).Dir&&((a.getD i (Record.mk 0 0 0 0 0)).Car==(b.getD i (Record.mk 0 0 0 0 0)).Car&&((a.getD i (Record.mk 0 0 0 0 0)).Value==(b.getD i (Record.mk 0 0 0 0 0)).Value&&true)))))=q
   cases q <;> rfl) (by
   show ngp' a b (a.length:Int)=_
   unfold ngp'
   simp only [decide_eq_false (Int.lt_irrefl (a.length:Int)),cond_false]) a.length 0 (by omega)) (by unfold nr' at ha; omega)
  rw [ngq' eqRec nwp' (Record.mk 0 0 0 0 0) hl] at h
  rw [show nj0' ((a,b,(0:Int),()),())=_ from h]
  cases eqL a b <;> rfl
 ·rw [(ngx' a b).2 hl,new' hl]; rfl
def eqI2 (x y:Int):Bool:=x==y
theorem ns8' {a b:List Int} (ha:a.length≤nr'):nih' a b=some ((eqL a b,()),()):=by
 unfold nih'
 by_cases hl:a.length=b.length
 ·rw [show (((a.length:Nat):Int) != ((b.length:Nat):Int))=false by simp [hl],cond_false]
  have h:=nf' (nc4' (step:=fun x=>nd4' x.1.1 x.1.2.1 x.1.2.2.1) a.length (fun i=>((a,b,(i:Int),()),())) (fun i=>eqI2 (a.getD i 0) (b.getD i 0)) (Sum.inl ((),())) (Sum.inr ((false,()),())) (fun i hi=>by
   show nd4' a b (i:Int)=_
   unfold nd4'
   simp only [decide_eq_true (show (i:Int) < (a.length:Int) by omega),nc' (show (0:Int)≤(i:Int) by omega) (show (i:Int) < (a.length:Int) by omega),nc' (show (0:Int)≤(i:Int) by omega) (show (i:Int) < (b.length:Int) by omega),cond_true,Int.toNat_natCast,wrap1 hi ha]
   show (bif !(eqI2 (a.getD i 0) (b.getD i 0)) then _ else _)=_
   cases eqI2 (a.getD i 0) (b.getD i 0) <;> rfl) (by
   show nd4' a b (a.length:Int)=_
   unfold nd4'
   simp only [decide_eq_false (Int.lt_irrefl (a.length:Int)),cond_false]) a.length 0 (by omega)) (by unfold nr' at ha; omega)
  rw [ngq' eqI2 (fun x y=>beq_iff_eq) 0 hl] at h
  rw [show ng9' ((a,b,(0:Int),()),())=_ from h]
  cases eqL a b <;> rfl
 ·rw [(ngx' a b).2 hl,new' hl]; rfl
def clE (a c:Int×Int):Bool:=(a.1==c.1)&&((a.2==c.2)&&true)
theorem n7g' (a:Int×Int):clE a a=true:=by unfold clE; simp
noncomputable def njq' (a c:Lan):Bool:=eqL a.lit c.lit&&(eqL a.gong c.gong&&clE a.cl c.cl)
noncomputable def sameR (a c:Rnd):Bool:=eqL a.recs c.recs&&(sameI a.img c.img&&(eqL a.xs c.xs&&(njq' a.lan c.lan&&clE a.ref c.ref)))
theorem n1s' (a:Rnd):sameR a a=true:=by unfold sameR njq'; simp [nzv',n2b',n7g']
theorem nu1' (a c:Lan) (hl:a.lit.length≤nr') (hg:a.gong.length≤nr'):niq' a.lit a.gong a.cl.1 a.cl.2 c.lit c.gong c.cl.1 c.cl.2=some ((njq' a c,()),()):=by
 unfold niq' njq'
 rw [now' hl,nis' hg]
 cases eqL a.lit c.lit <;> cases eqL a.gong c.gong <;> rfl
theorem n0e' (a c:Lan) (hl:a.lit.length≤nr') (hg:a.gong.length≤nr'):nmy' a.lit a.gong a.cl.1 a.cl.2 c.lit c.gong c.cl.1 c.cl.2=some ((njq' a c,()),()):=by
 unfold nmy' njq'
 rw [show ((a.cl.1==c.cl.1)&&((a.cl.2==c.cl.2)&&true))=clE a.cl c.cl from rfl]
 cases clE a.cl c.cl with
 | false=>rw [Bool.and_false,Bool.and_false]; rfl
 | true=>
  rw [Bool.not_true,cond_false]
  by_cases h1:a.lit.length=c.lit.length
  ·rw [show (((a.lit.length:Nat):Int) != ((c.lit.length:Nat):Int))=false by simp [h1],cond_false]
   by_cases h2:a.gong.length=c.gong.length
   ·rw [show (((a.gong.length:Nat):Int) != ((c.gong.length:Nat):Int))=false by simp [h2],cond_false]
    have l0:=nf' (nc4' (step:=fun x=>ngi' x.1.2.2.1 x.2.1.1 x.2.1.2.1 x.2.1.2.2.1 x.2.1.2.2.2.1 x.2.2.1.1 x.2.2.1.2.1 x.2.2.1.2.2.1 x.2.2.1.2.2.2.1) a.lit.length (fun i=>(((),(),(i:Int),()),(a.tup,c.tup,()))) (fun i=>eqC2 (a.lit.getD i noP) (c.lit.getD i noP)) (Sum.inl (((),(),()),(a.tup,c.tup,()))) (Sum.inr ((false,()),())) (fun i hi=>by
     show ngi' (i:Int) a.lit a.gong a.cl.1 a.cl.2 c.lit c.gong c.cl.1 c.cl.2=_
     unfold ngi'
     simp only [decide_eq_true (show (i:Int) < (a.lit.length:Int) by omega),nc' (show (0:Int)≤(i:Int) by omega) (show (i:Int) < (a.lit.length:Int) by omega),nc' (show (0:Int)≤(i:Int) by omega) (show (i:Int) < (c.lit.length:Int) by omega),cond_true,Int.toNat_natCast,wrap1 hi hl]
     show (bif !(eqC2 (a.lit.getD i noP) (c.lit.getD i noP)) then _ else _)=_
     cases eqC2 (a.lit.getD i noP) (c.lit.getD i noP) <;> rfl) (by
     show ngi' (a.lit.length:Int) a.lit a.gong a.cl.1 a.cl.2 c.lit c.gong c.cl.1 c.cl.2=_
     unfold ngi'
     simp only [decide_eq_false (Int.lt_irrefl (a.lit.length:Int)),cond_false]
     rfl) a.lit.length 0 (by omega)) (by unfold nr' at hl; omega)
    rw [ngq' eqC2 nyn' noP h1] at l0
    have l1:=nf' (nc4' (step:=fun x=>ngd' x.1.2.2.1 x.2.1.1 x.2.1.2.1 x.2.1.2.2.1 x.2.1.2.2.2.1 x.2.2.1.1 x.2.2.1.2.1 x.2.2.1.2.2.1 x.2.2.1.2.2.2.1) a.gong.length (fun i=>(((),(),(i:Int),()),(a.tup,c.tup,()))) (fun i=>a.gong.getD i false==c.gong.getD i false) (Sum.inl ((),())) (Sum.inr ((false,()),())) (fun i hi=>by
     show ngd' (i:Int) a.lit a.gong a.cl.1 a.cl.2 c.lit c.gong c.cl.1 c.cl.2=_
     unfold ngd'
     simp only [decide_eq_true (show (i:Int) < (a.gong.length:Int) by omega),nc' (show (0:Int)≤(i:Int) by omega) (show (i:Int) < (a.gong.length:Int) by omega),nc' (show (0:Int)≤(i:Int) by omega) (show (i:Int) < (c.gong.length:Int) by omega),cond_true,Int.toNat_natCast,wrap1 hi hg]
     cases a.gong.getD i false==c.gong.getD i false <;> rfl) (by
     show ngd' (a.gong.length:Int) a.lit a.gong a.cl.1 a.cl.2 c.lit c.gong c.cl.1 c.cl.2=_
     unfold ngd'
     simp only [decide_eq_false (Int.lt_irrefl (a.gong.length:Int)),cond_false]) a.gong.length 0 (by omega)) (by unfold nr' at hg; omega)
    rw [ngq' (fun x y=>x==y) nlb' false h2] at l1
    have l0':nkj' (((),(),(0:Int),()),(a.tup,c.tup,()))=_:=l0
    have l1':nh4' (((),(),(0:Int),()),(a.tup,c.tup,()))=_:=l1
    cases q0:eqL a.lit c.lit with
    | false=>
     rw [q0] at l0'
     exact Eq.trans (congrArg (fun o=>Option.bind o _) l0') rfl
    | true=>
     rw [q0] at l0'
     refine Eq.trans (congrArg (fun o=>Option.bind o _) l0') ?_
     show Option.bind (nh4' (((),(),(0:Int),()),(a.tup,c.tup,()))) _=_
     refine Eq.trans (congrArg (fun o=>Option.bind o _) l1') ?_
     cases eqL a.gong c.gong <;> rfl
   ·rw [(ngx' a.gong c.gong).2 h2,new' h2,Bool.false_and,Bool.and_false]; rfl
  ·rw [(ngx' a.lit c.lit).2 h1,new' h1]; rfl
structure Rnd.fit (a:Rnd):Prop where
 r:a.recs.length≤100000
 i:a.img.fit
 x:a.xs.length≤100000
 l:a.lan.lit.length≤100000
 g:a.lan.gong.length≤100000
theorem nng' {a:Rnd} (h:a.fit) (c:Rnd):nci' a.recs a.img.Phases a.img.Flags a.img.Leaving a.img.Entries a.xs a.lan.lit a.lan.gong a.lan.cl.1 a.lan.cl.2 a.ref.1 a.ref.2 c.recs c.img.Phases c.img.Flags c.img.Leaving c.img.Entries c.xs c.lan.lit c.lan.gong c.lan.cl.1 c.lan.cl.2 c.ref.1 c.ref.2=some ((sameR a c,()),()):=by
 have h5:100000≤nr':=by decide
 have h1:=h.r
 have h2:=h.x
 have h3:=h.l
 have h4:=h.g
 unfold nci' sameR
 rw [nn4' (by omega),nz6' h.i,nnp' (by omega),nu1' a.lan c.lan (by omega) (by omega)]
 cases eqL a.recs c.recs <;> cases sameI a.img c.img <;> cases eqL a.xs c.xs <;> cases njq' a.lan c.lan <;> rfl
theorem nsa' {a:Rnd} (h:a.fit) (c:Rnd):ng4' a.recs a.img.Phases a.img.Flags a.img.Leaving a.img.Entries a.xs a.lan.lit a.lan.gong a.lan.cl.1 a.lan.cl.2 a.ref.1 a.ref.2 c.recs c.img.Phases c.img.Flags c.img.Leaving c.img.Entries c.xs c.lan.lit c.lan.gong c.lan.cl.1 c.lan.cl.2 c.ref.1 c.ref.2=some ((sameR a c,()),()):=by
 have h5:100000≤nr':=by decide
 have h1:=h.r
 have h2:=h.x
 have h3:=h.l
 have h4:=h.g
 unfold ng4' sameR
 rw [nx6' (by omega),n0g' h.i,ns8' (by omega),n0e' a.lan c.lan (by omega) (by omega)]
 cases eqL a.recs c.recs <;> cases sameI a.img c.img <;> cases eqL a.xs c.xs <;> cases njq' a.lan c.lan <;> rfl
end Go.Ovl
namespace Go.Ovl
open Go Go.Ab
set_option maxRecDepth 100000
def errT:(Unit×Int×Unit)×((List Record×List Int×List Bool×List Bool×List Entry×List Int×List Calls×List Bool×Int×Int×Int×Int×Unit)×Unit):=(((),1,()),(Rnd.none.tup,()))
def nyf' (b:Bldg) (m:Img) (c_K:List Int) (vs:List View) (p:List Calls) (press:Int×Int) (i:Int):(List Int×Unit×Unit×Unit×List View×List Calls×Int×Unit)×((Int×Int×Unit)×T'0×T'5×Unit):=
 ((c_K,(),(),(),vs,p,i,()),((press.1,press.2,()),b.tup,m.tup,()))
section
variable {b:Bldg} {m:Img} {vs:List View} {xs c_K:List Int} (h:Plan22 b m vs xs) {p:List Calls} (hp:p.length=b.Cars.length) (press:Int×Int) (hX:nbv' m.Phases m.Flags m.Leaving m.Entries c_K=some ((xs,()),()))
include h hp
theorem n7h' (good:Bool):(tickV b m xs vs p press good).fit:=by
 have hcc:=h.cars
 have hvl:=h.made.len
 obtain ⟨t1,t2,t3⟩:=n6g' h p press good
 have hf:=n9g' h.small h.code t1
 have he:=nb5' h.small t1
 have hlan:(tickV b m xs vs p press good).lan.lit.length=vs.length∧(tickV b m xs vs p press good).lan.gong.length=vs.length:=by
  cases good with
  | true=>
   rw [(n12' h p press).2.2.2.1]
   exact (nlx' h.small h.code vs p (by omega) (by omega)).2
  | false=>
   show (darkV vs.length).lit.length=_∧(darkV vs.length).gong.length=_
   exact ⟨List.length_replicate,List.length_replicate⟩
 exact ⟨by omega,hf,by omega,by omega,by omega⟩
include hX
theorem nug' (good:Bool) (i:Int) (hi:(i==0)=good) (h2:decide (i < 2)=true):nct' c_K vs p i press.1 press.2 b.Floors b.Debounce b.Room b.Park b.Empty b.Full b.Over b.Cars m.Phases m.Flags m.Leaving m.Entries=some (.inl (nyf' b m c_K vs p press (IntKind.i64.wrap (i + 1)))):=by
 have ht:=h.tick hp press good
 have hr:=n0m' h hp press good
 have hf:=n7h' h hp press good
 generalize tickV b m xs vs p press good=T at *
 have s1:=nsa' hf T
 have s2:=nng' hf T
 rw [n1s'] at s1 s2
 have s3:=nng' hf Rnd.none
 have s4:=nsa' hf Rnd.none
 unfold nct'
 rw [h2,hi]
 refine bindq hX ?_
 refine bindq ht ?_
 refine bindq hX ?_
 refine bindq hr ?_
 refine bindq s1 ?_
 refine bindq s2 ?_
 refine bindq s3 ?_
 refine bindq s4 ?_
 show (bif !(sameR T Rnd.none==sameR T Rnd.none) then _ else _)=_
 rw [beq_self_eq_true]
 rfl
theorem n2z':ndg' (nyf' b m c_K vs p press 0)=some (.inl ((c_K,(),(),(),vs,p,()),((press.1,press.2,()),b.tup,m.tup,()))):=by
 have s0:=nug' h hp press hX true 0 rfl rfl
 have s1:=nug' h hp press hX false 1 rfl rfl
 have s2:nct' c_K vs p 2 press.1 press.2 b.Floors b.Debounce b.Room b.Park b.Empty b.Full b.Over b.Cars m.Phases m.Flags m.Leaving m.Entries=some (.inr (.inl ((c_K,(),(),(),vs,p,()),((press.1,press.2,()),b.tup,m.tup,())))):=by
  unfold nct'
  rw [show decide ((2:Int) < 2)=false from rfl]; rfl
 rw [show IntKind.i64.wrap ((0:Int) + 1)=1 from rfl] at s0
 rw [show IntKind.i64.wrap ((1:Int) + 1)=2 from rfl] at s1
 have hi:iter (fun x:(List Int×Unit×Unit×Unit×List View×List Calls×Int×Unit)×((Int×Int×Unit)×T'0×T'5×Unit)=>nct' x.1.1 x.1.2.2.2.2.1 x.1.2.2.2.2.2.1 x.1.2.2.2.2.2.2.1 x.2.1.1 x.2.1.2.1 x.2.2.1.1 x.2.2.1.2.1 x.2.2.1.2.2.1 x.2.2.1.2.2.2.1 x.2.2.1.2.2.2.2.1 x.2.2.1.2.2.2.2.2.1 x.2.2.1.2.2.2.2.2.2.1 x.2.2.1.2.2.2.2.2.2.2.1 x.2.2.2.1.1 x.2.2.2.1.2.1 x.2.2.2.1.2.2.1 x.2.2.2.1.2.2.2.1) 3 (nyf' b m c_K vs p press 0)=_:=(ns' s0).trans ((ns' s1).trans (ni' s2))
 exact nf' hi (by omega)
end
section
variable {b:Bldg} {m:Img} {vs:List View} {xs:List Int} (h:Plan22 b m vs xs) (press:Int×Int)
include h
theorem nzc' {p:List Calls} (hp:p.length=b.Cars.length):nef' b.Floors b.Debounce b.Room b.Park b.Empty b.Full b.Over b.Cars vs p=some (((),0,()),((ncd' b vs p).tup,())):=by
 have hcc:=h.cars
 have hvl:=h.made.len
 have hl:=njk' h.small h.code vs p (by omega)
 unfold nh5' at hl
 rw [show ((vs.length:Int)==(b.Cars.length:Int))=true by rw [hvl]; exact beq_self_eq_true _,show ((p.length:Int)==(b.Cars.length:Int))=true by rw [hp]; exact beq_self_eq_true _] at hl
 exact hl
theorem n4w' {v:List View} {p:List Calls} (hv:v.length≤1000) (hb:¬ v.length=b.Cars.length∨¬ p.length=b.Cars.length):nef' b.Floors b.Debounce b.Room b.Park b.Empty b.Full b.Over b.Cars v p=some (((),1,()),(Lan.none.tup,())):=by
 have hl:=njk' h.small h.code v p hv
 unfold nh5' at hl
 have:((v.length:Int)==(b.Cars.length:Int)&&((p.length:Int)==(b.Cars.length:Int)))=false:=by
  rcases hb with hb | hb
  ·rw [beq_f (show ¬ (v.length:Int)=(b.Cars.length:Int) by omega)]; rfl
  ·rw [beq_f (show ¬ (p.length:Int)=(b.Cars.length:Int) by omega),Bool.and_false]
 rw [this] at hl
 exact hl
theorem nx0' {m':Img} {x:List Int} {v:List View} {p:List Calls} (hv:v.length≤1000) (hb:¬ v.length=b.Cars.length∨¬ p.length=b.Cars.length):nu' b.Floors b.Debounce b.Room b.Park b.Empty b.Full b.Over b.Cars m'.Phases m'.Flags m'.Leaving m'.Entries x v p press.1 press.2 true=some errT:=by
 unfold nu'
 exact bindq (n4w' h hv hb) rfl
theorem n4r' {p:List Calls} (hp:p.length=b.Cars.length):nu' b.Floors b.Debounce b.Room b.Park b.Empty b.Full b.Over b.Cars m.Phases m.Flags m.Leaving m.Entries (xs++[0]) vs p press.1 press.2 true=some errT:=by
 have hcc:=h.cars
 have he:=h.ents
 have hlp:=h.img.lp
 have hxl:=h.xlen
 have hmx:100000≤maxLen:=by decide
 have e1:=nd3' h.small m (by omega) (by omega)
 rw [Img.ok_iff.2 h.img] at e1
 have hl:(xs++[(0:Int)]).length=m.Entries.length + 1:=by rw [List.length_append,List.length_singleton]; omega
 have e2:=nka' m (xs:=xs++[0]) (by omega)
 rw [beq_f (show ¬ ((xs++[(0:Int)]).length:Int)=(m.Entries.length:Int) by omega),Bool.false_and] at e2
 unfold nu'
 refine bindq (nzc' h hp) ?_
 refine bindq e1 ?_
 exact bindq e2 rfl
theorem n38' {p:List Calls} (hp:p.length=b.Cars.length):nu' b.Floors b.Debounce b.Room b.Park b.Empty b.Full b.Over b.Cars [] [] [] [] [] vs p press.1 press.2 true=some errT:=by
 have hcc:=h.cars
 have e1:=nd3' h.small Img.none (Nat.zero_le _) (Nat.zero_le _)
 have hf:Img.none.ok b=false:=by
  cases hq:Img.none.ok b with
  | false=>rfl
  | true=>
   have:(0:Nat)=b.Cars.length:=(Img.ok_all hq).2.1
   omega
 rw [hf] at e1
 unfold nu'
 refine bindq (nzc' h hp) ?_
 exact bindq e1 rfl
end
theorem nr7' (c_N_0:Int) (c_N_1:Int) (c_L:List (Int)) (c_K:List (Int)) (c_Press_Up:Int) (c_Press_Down:Int) (h_c_N_0:0≤c_N_0∧c_N_0 < 256) (h_c_N_1:0≤c_N_1∧c_N_1 < 256) (h_c_L:c_L.length≤maxLen∧∀ e ∈ c_L,(0≤e∧e < 256)) (h_c_K:c_K.length≤maxLen∧∀ e ∈ c_K,(0≤e∧e < 256)) (_h_c_Press_Up:0≤c_Press_Up∧c_Press_Up < 4294967296) (_h_c_Press_Down:0≤c_Press_Down∧c_Press_Down < 4294967296):F_l24_DispatchTicks c_N_0 c_N_1 c_L c_K c_Press_Up c_Press_Down=some ((true,()),()):=by
 obtain ⟨b,m,vs,xs,hB,hI,hV,hX,h⟩:=n85' h_c_N_0 h_c_N_1 h_c_L h_c_K
 have hcc:=h.cars
 have hvl:=h.made.len
 have hxl:=h.xlen
 have hme:=h.ents
 let press:Int×Int:=(c_Press_Up,c_Press_Down)
 unfold F_l24_DispatchTicks
 refine bindq hB ?_
 refine bindq hI ?_
 refine bindq hV ?_
 show (bif (((decide ((0:Int)≤(b.Cars.length:Int)))&&(decide ((b.Cars.length:Int)≤(b.Cars.length:Int))))&&(decide ((b.Cars.length:Int)≤(2147483648:Int)))) then _ else _)=_
 rw [decide_eq_true (show (0:Int)≤(b.Cars.length:Int) by omega),decide_eq_true (Int.le_refl (b.Cars.length:Int)),decide_eq_true (show (b.Cars.length:Int)≤2147483648 by omega)]
 show (bif inB 0 vs.length then bif inB 0 (List.replicate (Int.toNat (b.Cars.length:Int)) (Calls.mk 0 0)).length then _ else _ else _)=_
 rw [nc' (Int.le_refl 0) (show (0:Int) < (vs.length:Int) by omega),nc' (Int.le_refl 0) (show (0:Int) < ((List.replicate (Int.toNat (b.Cars.length:Int)) (Calls.mk 0 0)).length:Int) by rw [List.length_replicate]; omega)]
 have hp:((List.replicate (Int.toNat (b.Cars.length:Int)) (Calls.mk 0 0)).set (Int.toNat 0) (Calls.mk (vs.getD (Int.toNat 0) noV).Shows_Up (vs.getD (Int.toNat 0) noV).Shows_Down)).length=b.Cars.length:=by rw [List.length_set,List.length_replicate,Int.toNat_natCast]
 have hdl:(List.drop 1 (List.take vs.length vs)).length=vs.length - 1:=by rw [List.length_drop,List.length_take,Nat.min_self]
 refine bindq (n2z' h hp press hX) ?_
 refine bindq hX ?_
 show (bif Nat.ble (xs.length + 1) 2147483648 then _ else _)=_
 rw [n2' (show xs.length + 1≤2147483648 by omega)]
 refine bindq (n4r' h press hp) ?_
 refine bindq hX ?_
 show (bif decide ((1:Int)≤((vs.length:Nat):Int)) then _ else _)=_
 rw [decide_eq_true (show (1:Int)≤((vs.length:Nat):Int) by omega)]
 refine bindq (nx0' h press (m':=m) (x:=xs) (v:=List.drop 1 (List.take vs.length vs)) (by omega) (.inl (by omega))) ?_
 refine bindq hX ?_
 refine bindq (nx0' h press (m':=m) (x:=xs) (p:=[]) (v:=vs) (by omega) (.inr (by show ¬ (0:Nat)=_; omega))) ?_
 refine bindq (n38' h press hp) ?_
 exact bindq (a:=((true,()),())) (bindq n6q' rfl) rfl
end Go.Ovl
