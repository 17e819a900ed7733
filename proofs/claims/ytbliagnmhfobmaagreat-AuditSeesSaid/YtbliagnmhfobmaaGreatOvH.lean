/- The made building, image, views and expect of the laws on rounds (layer 24). -/
import Derived.Test.YtbliagnmhfobmaaGreatOvB
import Derived.Test.YtbliagnmhfobmaaGreatOvG
import Derived.Test.YtbliagnmhfobmaaGreatOvD
import Derived.Test.YtbliagnmhfobmaaGreatOvC
import Derived.Test.YtbliagnmhfobmaaGreatOvF
namespace Go.Ovl
open Go Go.Ab
set_option maxRecDepth 100000
theorem Plan22.exp {b:Bldg} {m:Img} {vs:List View} {xs:List Int} (h:Plan22 b m vs xs):expOK xs=true:=List.all_eq_true.2 fun x hx=>ns'.2 (h.xval x hx)
theorem n6o' {α:Type} {c:Bool} {a r:α} (h:r ∈ (bif c then [a] else [])):r=a:=by
 cases c with
 | true=>exact List.mem_singleton.1 h
 | false=>cases h
theorem nx3' (b:Bldg) (vs:List View):∀ (l:List Entry) (xs:List Int),∀ r ∈ planR b vs l xs,r.U0=3∨r.U0=7
 | [],xs,r,hr=>by simp [planR] at hr
 | _ :: _,[],r,hr=>by simp [planR] at hr
 | e :: t,x :: xs,r,hr=>by
  simp only [planR] at hr;rcases List.mem_append.1 hr with h | h
  ·unfold recsV at h
   rcases List.mem_append.1 h with h | h
   ·right; rw [n6o' h]
   ·left; rw [n6o' h]
  ·exact nx3' b vs t xs r h
theorem n8x' (b:Bldg) (m:Img) (xs:List Int) (vs:List View):∀ r ∈ (planV b m xs vs).1,r.U0=3∨r.U0=7:=by
 unfold planV;cases m.ok b&&((xs.length:Int)==(m.B0.length:Int)&&((vs.length:Int)==(b.A0.length:Int)&&expOK xs)) with
 | true=>exact nx3' b vs m.B0 xs
 | false=>exact fun r hr=>by cases hr
def nep' (b:Bldg):Img→List Record→Img×Int
 | m,[]=>(m,0)
 | m,r :: t=>bif np' b r then nep' b (n4' m r) t else (Img.none,1)
theorem ntv' {b:Bldg}:∀ {l:List Record} {m:Img},(∀ r ∈ l,np' b r=true)→nep' b m l=(nbc' m l,0)
 | [],_,_=>rfl
 | r :: t,m,h=>by
  simp only [nep'];rw [h r (List.mem_cons_self ..),cond_true];exact ntv' fun x hx=>h x (List.mem_cons_of_mem _ hx)
theorem nwa' {b:Bldg}:∀ {l:List Record} {m:Img},(nep' b m l).2 ≠ 0→nep' b m l=(Img.none,1)
 | [],_,h=>absurd rfl h
 | r :: t,m,h=>by
  simp only [nep'] at h ⊢;cases hv:np' b r with
  | true=>rw [hv] at h; exact nwa' h
  | false=>rfl
section
variable {b:Bldg} (hb:b.small) (hcode:b.code=0)
include hb hcode
theorem nyr' {l:List Record} (hl:l.length≤10000):∀ (k i:Nat) (Y:Img),i + k=l.length→ImgOK b Y→iter (fun x=>letI a:=x.2.1.2.2; letI b:=x.2.2; letI c:=a.2.2; letI d:=b.2.1; nci' x.1.1 x.1.2.2.2.2.1 x.2.1.1 x.2.1.2.1 a.1 a.2.1 c.1 c.2.1 c.2.2.1 c.2.2.2.1 b.1.1 b.1.2.1 b.1.2.2.1 b.1.2.2.2.1 d.1 d.2.1 d.2.2.1 d.2.2.2.1) (k + 1) ((l,(),(),(),(i:Int),()),(b.tup,Y.tup,Img.none.tup,()))=some (bif (nep' b Y (l.drop i)).2==0 then .inl (((),(),()),((nep' b Y (l.drop i)).1.tup,Img.none.tup,())) else .inr (((),1,()),(Img.none.tup,()))):=by
 intro k
 induction k with
 | zero=>
  intro i Y hi hY;obtain rfl:i=l.length:=by omega
  refine no' ?_;show nci' l (l.length:Int) b.D0 b.E0 b.I0 b.Q0 b.J0 b.K0 b.P0 b.A0 Y.F0 Y.N0 Y.H0 Y.B0 [] [] [] []=_;unfold nci';rw [decide_eq_false (Int.lt_irrefl (l.length:Int)),List.drop_length];rfl
 | succ k ih=>
  intro i Y hi hY;have hi':i < l.length:=by omega
  have hcc:=nn' hcode;have he:=nbf' hb hY;have hlp:=hY.lp;have hmx:100000≤maxLen:=by decide
  have ha:=nqj' hb Y (by omega) (by omega) (by omega) (r:=l.getD i noRec)
  unfold nvb' at ha;rw [Img.ok_iff.2 hY,Bool.true_and] at ha;rw [nba' noRec hi'];simp only [nep'];cases hv:np' b (l.getD i noRec) with
  | true=>
   rw [hv] at ha;refine (nv' (x':=((l,(),(),(),((i + 1:Nat):Int),()),(b.tup,(n4' Y (l.getD i noRec)).tup,Img.none.tup,()))) ?_).trans (ih (i + 1) _ (by omega) (ngq' hY hv).1)
   show nci' l (i:Int) b.D0 b.E0 b.I0 b.Q0 b.J0 b.K0 b.P0 b.A0 Y.F0 Y.N0 Y.H0 Y.B0 [] [] [] []=_;unfold nci';rw [show Record.mk 0 0 0 0 0=noRec from rfl]
   simp only [decide_eq_true (show (i:Int) < (l.length:Int) by omega),na' (show (0:Int)≤(i:Int) by omega) (show (i:Int) < (l.length:Int) by omega),cond_true,Int.toNat_natCast,ha,Option.bind_some,bne_self_eq_false,cond_false,wrap1 hi' (show l.length≤nu' by unfold nu'; omega)]
   rfl
  | false=>
   rw [hv] at ha;refine no' ?_;show nci' l (i:Int) b.D0 b.E0 b.I0 b.Q0 b.J0 b.K0 b.P0 b.A0 Y.F0 Y.N0 Y.H0 Y.B0 [] [] [] []=_;unfold nci';rw [show Record.mk 0 0 0 0 0=noRec from rfl]
   simp only [decide_eq_true (show (i:Int) < (l.length:Int) by omega),na' (show (0:Int)≤(i:Int) by omega) (show (i:Int) < (l.length:Int) by omega),cond_true,Int.toNat_natCast,ha,cond_false,Option.bind_some]
   rfl
theorem nbgd' {m:Img} (hm:ImgOK b m):m.fit:=by
 have hcc:=nn' hcode;have he:=nbf' hb hm;have h1:=hm.lp;have h2:=hm.lf;have h3:=hm.ll;exact ⟨by omega,by omega,by omega,by omega⟩
theorem n10' {m:Img} (hm:ImgOK b m) {l:List Record} (hl:l.length≤10000):nmk' b.D0 b.E0 b.I0 b.Q0 b.J0 b.K0 b.P0 b.A0 m.F0 m.N0 m.H0 m.B0 l=some (((),(nep' b m l).2,()),((nep' b m l).1.tup,())):=by
 have h:=nyr' hb hcode hl l.length 0 m (by omega) hm
 rw [List.drop_zero] at h;have h':ngn' ((l,(),(),(),(0:Int),()),(b.tup,m.tup,Img.none.tup,()))=_:=ng' h (by omega)
 unfold nmk';rw [show ngn' ((l,(),(),(),(0:Int),()),((b.D0,b.E0,b.I0,b.Q0,b.J0,b.K0,b.P0,b.A0,()),(m.F0,m.N0,m.H0,m.B0,()),(([]:List Int),([]:List Bool),([]:List Bool),([]:List Entry),()),()))=_ from h']
 by_cases g:(nep' b m l).2=0
 ·generalize nep' b m l=w at g
  rw [g];rfl
 ·rw [beq_f g,nwa' g]
  rfl
end
section
variable {b:Bldg} {m:Img} {vs:List View} {xs:List Int} (h:Plan22 b m vs xs) (ps:List Calls) (press:Int×Int) (good:Bool)
include h
end
def Agree (c:Int×Int) (m:Img):Prop:=∀ f:Nat,f < 32→∀ d:Int,(d=1∨d=2)→(bitC c f d=true↔((f:Int),d) ∈ m.B0.map nc6')
theorem n2m' {b:Bldg}:∀ {l:List Entry} {X:Rnd},(regL b l X).lan=X.lan
 | [],_=>rfl
 | e :: t,X=>by
  show (regL b t (stepG b e X)).lan=X.lan;rw [n2m'];unfold stepG;cases roomV b X.img <;> rfl
theorem n89' {b:Bldg} (hb:b.small) {m:Img} (hm:ImgOK b m):Agree (ofC m.B0 (0,0)) m:=fun f _ d hd=>by
 have hc:∀ e ∈ m.B0,callE e:=fun e he=>n30' hb (nc0'.1 (hm.en e he)).1
 rw [n56' hc f hd,nn1'];simp
section
variable {b:Bldg} {m:Img} {vs:List View} {xs:List Int} (h:Plan22 b m vs xs) (ps:List Calls) (press:Int×Int)
include h
end
theorem bindq {α β:Type} {o:Option α} {a:α} {f:α→Option β} {r:Option β} (h:o=some a) (h2:f a=r):Option.bind o f=r:=by
 subst h; exact h2
theorem n15' {m:Img} (hs:n8' m.B0) (hl:m.B0.length≤1000) {xs:List Int} (hx:xs.length=m.B0.length) (F D:Int):nlh' m.F0 m.N0 m.H0 m.B0 xs F D=some ((numK m.B0 xs F D,()),()):=by
 have hfp:=nkn' (c:=keyE F D) 0 hs;rw [Nat.zero_add] at hfp;have hfp':findF F D m.B0 0=_:=hfp;unfold nlh' numK;rw [nnw' m (by omega),hfp']
 cases hh:hasF (keyE F D) m.B0 with
 | false=>rfl
 | true=>
  obtain ⟨p1,_⟩:=nzt' hh;simp only [cond_true,Option.bind_some];rw [decide_eq_true (show (0:Int)≤((posF (keyE F D) m.B0:Nat):Int) by omega),na' (show (0:Int)≤((posF (keyE F D) m.B0:Nat):Int) by omega) (show ((posF (keyE F D) m.B0:Nat):Int) < (xs.length:Int) by omega),Int.toNat_natCast]
  rfl
theorem n2u' {m:Img} (hs:n8' m.B0) (hl:m.B0.length≤1000) {xs:List Int} (hx:xs.length=m.B0.length) {q:Img} (hq:q.B0.length≤1000):nnv' m.F0 m.N0 m.H0 m.B0 xs q.F0 q.N0 q.H0 q.B0=some ((q.B0.map (numV m.B0 xs),()),()):=by
 have key:∀ (k i:Nat) (out:List Int),i + k=q.B0.length→out.length=i→iter (fun x=>letI a:=x.2.2.1; ne1' x.1.1 x.1.2.2.2.1 x.1.2.2.2.2.1 x.2.1.1 x.2.1.2.1 x.2.1.2.2.1 x.2.1.2.2.2.1 a.1 a.2.1 a.2.2.1 a.2.2.2.1) (k + 1) ((xs,(),(),out,(i:Int),()),(m.tup,q.tup,()))=some ((out++(q.B0.drop i).map (numV m.B0 xs),()),()):=by
  intro k
  induction k with
  | zero=>
   intro i out hi _;obtain rfl:i=q.B0.length:=by omega
   refine no' ?_;show ne1' xs out (q.B0.length:Int) m.F0 m.N0 m.H0 m.B0 q.F0 q.N0 q.H0 q.B0=_;unfold ne1';rw [decide_eq_false (Int.lt_irrefl (q.B0.length:Int)),List.drop_length,List.map_nil,List.append_nil];rfl
  | succ k ih=>
   intro i out hi ho;have hi':i < q.B0.length:=by omega
   have hs1:ne1' xs out (i:Int) m.F0 m.N0 m.H0 m.B0 q.F0 q.N0 q.H0 q.B0=some (.inl ((xs,(),(),out++[numV m.B0 xs (q.B0.getD i noE)],((i + 1:Nat):Int),()),(m.tup,q.tup,()))):=by
    unfold ne1';rw [show Entry.mk 0 0 0 0 false=noE from rfl]
    simp only [decide_eq_true (show (i:Int) < (q.B0.length:Int) by omega),na' (show (0:Int)≤(i:Int) by omega) (show (i:Int) < (q.B0.length:Int) by omega),cond_true,Int.toNat_natCast]
    refine bindq (n15' hs hl hx _ _) ?_;rw [nh' (show out.length + [numK m.B0 xs (q.B0.getD i noE).C0 (q.B0.getD i noE).G0].length≤2147483648 by show out.length + 1≤_; omega),wrap1 hi' (show q.B0.length≤nu' by unfold nu'; omega)]
    rfl
   refine (nv' hs1).trans ?_;rw [ih (i + 1) _ (by omega) (by rw [List.length_append,List.length_singleton]; omega),nba' noE hi',List.map_cons,List.append_assoc,List.singleton_append]
 have h:=key q.B0.length 0 [] (by omega) rfl
 rw [List.drop_zero,List.nil_append] at h;have h':nj7' ((xs,(),(),([]:List Int),(0:Int),()),(m.tup,q.tup,()))=_:=ng' h (by omega)
 unfold nnv';exact bindq h' rfl
section
variable {b:Bldg} (hb:b.small) (hcode:b.code=0)
include hb hcode
theorem nrs' {X:Rnd} (hX:X.ok b) {l:List Record} (hl:l.length≤10000) (hv:∀ r ∈ l,np' b r=true) (hxs:xsL X.img X.xs l=(nbc' X.img l).B0.map (numV X.img.B0 X.xs)) (hr:X.recs.length≤100000):nfs' b.D0 b.E0 b.I0 b.Q0 b.J0 b.K0 b.P0 b.A0 X.recs X.img.F0 X.img.N0 X.img.H0 X.img.B0 X.xs X.lan.lit X.lan.gong X.lan.cl.1 X.lan.cl.2 X.ref.1 X.ref.2 l=some (((),()),((wrL l X).tup,())):=by
 have h1:=n10' hb hcode hX.img hl;rw [ntv' hv] at h1;have hok:=(nxv' hX hv).img;have he:=nbf' hb hX.img;have he2:=nbf' hb hok;have he3:(nbc' X.img l).B0.length≤14:=he2;have h2:=n2u' hX.img.so (by omega) hX.len (q:=nbc' X.img l) (by omega)
 rw [← hxs] at h2;unfold nfs';refine bindq h1 (bindq h2 ?_);rw [nh' (show ([]:List Record).length + X.recs.length≤2147483648 by show 0 + X.recs.length≤_; omega),List.nil_append]
 show (bif Nat.ble (X.recs.length + l.length) 2147483648 then _ else _)=_;rw [nh' (show X.recs.length + l.length≤2147483648 by omega)]
 rfl
theorem nbd0' {X:Rnd} (hX:X.ok b) {e:Entry} (he:nk' b e.C0 e.G0=true) (hr:X.recs.length≤100000):nfs' b.D0 b.E0 b.I0 b.Q0 b.J0 b.K0 b.P0 b.A0 X.recs X.img.F0 X.img.N0 X.img.H0 X.img.B0 X.xs X.lan.lit X.lan.gong X.lan.cl.1 X.lan.cl.2 X.ref.1 X.ref.2 [regR e]=some (((),()),((stepW (regR e) X).tup,())):=by
 rw [← nbgt'];refine nrs' hb hcode hX (by show 1≤10000; omega) (fun r hr=>?_) ?_ hr
 ·rw [List.mem_singleton.1 hr]; exact nz6' he
 ·exact nu8' hX.img.so hX.len (regR e)
end
def stepF (b:Bldg) (m:Img) (e:Entry) (X:Rnd):Rnd:=bif decide (0≤findF e.C0 e.G0 m.B0 0) then X else stepG b e X
def regF (b:Bldg) (m:Img):List Entry→Rnd→Rnd
 | [],X=>X
 | e :: t,X=>regF b m t (stepF b m e X)
theorem nw2' (b:Bldg) (m:Img):∀ (l k:List Entry) (X:Rnd),regF b m (l++k) X=regF b m k (regF b m l X)
 | [],_,_=>rfl
 | e :: t,k,X=>nw2' b m t k (stepF b m e X)
theorem nwt' (b:Bldg):∀ (l k:List Entry) (X:Rnd),regL b (l++k) X=regL b k (regL b l X)
 | [],_,_=>rfl
 | e :: t,k,X=>nwt' b t k (stepG b e X)
theorem n2r' {b:Bldg} {m:Img} {vs:List View} {xs:List Int} (h:PlanW b m vs xs) {f:Nat} (hf:f < 32) {d:Int} (hd:d=1∨d=2):decide (0≤findF (f:Int) d m.B0 0)=bitC (ofC m.B0 (0,0)) f d:=by
 have ha:=n89' h.small h.img f hf d hd;rw [Bool.eq_iff_iff,ha,decide_eq_true_eq];rcases nme' (f:Int) d m.B0 0 with ⟨h1,h2⟩ | ⟨k,h1,h2,h3⟩
 ·rw [h1]
  constructor
  ·intro q; omega
  ·intro q
   obtain ⟨e,he,hq⟩:=List.mem_map.1 q
   have:=h2 e he
   rw [n6q'.2 hq] at this;cases this
 ·rw [h2]
  constructor
  ·intro _
   exact List.mem_map.2 ⟨_,n5' noE h1,n6q'.1 h3⟩
  ·intro _; omega
theorem nbev' {b:Bldg} {m:Img} {vs:List View} {xs:List Int} (h:PlanW b m vs xs) (c:Int×Int) {f:Nat} (hf:f < 32) (X:Rnd):regF b m (ncf' c f) X=regL b (ncf' (nr' c (ofC m.B0 (0,0))) f) X:=by
 have f1:=n2r' h hf (d:=1) (.inl rfl);have f2:=n2r' h hf (d:=2) (.inr rfl);have b1:=nbi' c (ofC m.B0 (0,0)) hf (d:=1);have b2:=nbi' c (ofC m.B0 (0,0)) hf (d:=2);unfold ncf';rw [b1,b2,nw2',nwt']
 have one:∀ (d:Int) (u v:Bool),decide (0≤findF (f:Int) d m.B0 0)=v→∀ Y:Rnd,regF b m (bif u then [⟨(f:Int),d,-1,0,false⟩] else []) Y=regL b (bif (u&&!v) then [⟨(f:Int),d,-1,0,false⟩] else []) Y:=fun d u v hv Y=>by
  cases u with
  | false=>rfl
  | true=>
   show stepF b m ⟨(f:Int),d,-1,0,false⟩ Y=_;unfold stepF;simp only;rw [hv];cases v <;> rfl
 rw [one 1 (bitC c f 1) _ f1,one 2 (bitC c f 2) _ f2]
theorem nbbe' {b:Bldg} {m:Img} {vs:List View} {xs:List Int} (h:PlanW b m vs xs) (c:Int×Int) (X:Rnd):regF b m (listC c) X=regL b (listC (nr' c (ofC m.B0 (0,0)))) X:=by
 have key:∀ (k i:Nat) (Y:Rnd),i + k≤32→regF b m ((List.range' i k).flatMap (ncf' c)) Y=regL b ((List.range' i k).flatMap (ncf' (nr' c (ofC m.B0 (0,0))))) Y:=by
  intro k
  induction k with
  | zero=>exact fun _ _ _=>rfl
  | succ k ih=>
   intro i Y hi;rw [List.range'_succ,List.flatMap_cons,List.flatMap_cons,nw2',nwt',nbev' h c (show i < 32 by omega),ih (i + 1) _ (by omega)]
 exact key 32 0 X (by omega)
theorem nbb1' {c:Int×Int} (h:∀ f:Nat,f < 32→∀ d:Int,bitC c f d=false):listC c=[]:=by
 have key:∀ (k i:Nat),i + k≤32→(List.range' i k).flatMap (ncf' c)=[]:=by
  intro k
  induction k with
  | zero=>exact fun _ _=>rfl
  | succ k ih=>
   intro i hi;rw [List.range'_succ,List.flatMap_cons,ih (i + 1) (by omega)]
   unfold ncf';rw [h i (by omega) 1,h i (by omega) 2]
   rfl
 exact key 32 0 (by omega)
theorem nbcp' {b:Bldg} (hb:b.small) (hcode:b.code=0) {press:Int×Int} {e:Entry} (h:e ∈ listC (bothC press (hallC b))):nk' b e.C0 e.G0=true:=by
 obtain ⟨h1,h2,h3⟩:=n08' h;rw [nel',Bool.and_eq_true,nsu' hb hcode (by omega) h2,Int.toNat_of_nonneg h1.1] at h3
 exact h3.2
theorem nbdp' {b:Bldg} {m:Img} {X:Rnd} (h:X.ok b) {e:Entry} (he:nk' b e.C0 e.G0=true):(stepF b m e X).ok b:=by
 unfold stepF;cases decide (0≤findF e.C0 e.G0 m.B0 0) with
 | true=>exact h
 | false=>exact n3a' h he
theorem n7x' (b:Bldg) (m:Img) (e:Entry) (X:Rnd):(stepF b m e X).recs.length≤X.recs.length + 1:=by
 unfold stepF;cases decide (0≤findF e.C0 e.G0 m.B0 0) with
 | true=>exact Nat.le_succ _
 | false=>exact nu1' b [e] X
def Rnd.none:Rnd:=⟨[],Img.none,[],Lan.none,(0,0)⟩
section
variable {b:Bldg} (hb:b.small) (hcode:b.code=0)
include hb hcode
theorem nbcx' {m:Img} (hm:ImgOK b m) (vs:List View) {l:List Entry} (hl:l.length≤64) {i:Nat} (hi:i < l.length) (hv:nk' b (l.getD i noE).C0 (l.getD i noE).G0=true) {X:Rnd} (hX:X.ok b) (hr:X.recs.length≤10000):ngh' vs l (i:Int) b.D0 b.E0 b.I0 b.Q0 b.J0 b.K0 b.P0 b.A0 m.F0 m.N0 m.H0 m.B0 [] [] [] [] [] [] [] [] 0 0 0 0 X.recs X.img.F0 X.img.N0 X.img.H0 X.img.B0 X.xs X.lan.lit X.lan.gong X.lan.cl.1 X.lan.cl.2 X.ref.1 X.ref.2=some (.inl ((vs,(),(),(),(),l,((i + 1:Nat):Int),()),(b.tup,m.tup,Rnd.none.tup,(stepF b m (l.getD i noE) X).tup,()))):=by
 have hcc:=nn' hcode;have he:=nbf' hb hm;have heX:=nbf' hb hX.img;have hlp:=hX.img.lp;have hf:=nnw' m (by omega) (l.getD i noE).C0 (l.getD i noE).G0
 have hrm:=nvz' hb X.img (by omega) (by omega) (by omega)
 have hw:=nbd0' hb hcode hX hv (by omega)
 unfold ngh';rw [show Entry.mk 0 0 0 0 false=noE from rfl]
 simp only [decide_eq_true (show (i:Int) < (l.length:Int) by omega),na' (show (0:Int)≤(i:Int) by omega) (show (i:Int) < (l.length:Int) by omega),cond_true,Int.toNat_natCast,wrap1 hi (show l.length≤nu' by unfold nu'; omega)]
 generalize l.getD i noE=e at *;refine bindq hf ?_;unfold stepF;cases hq:decide (0≤findF e.C0 e.G0 m.B0 0) with
 | true=>rfl
 | false=>
  refine bindq hrm ?_;unfold stepG;cases hz:roomV b X.img with
  | false=>
   refine bindq (niv' e.C0 e.G0) ?_;refine bindq (nev' X.ref (oneC e.C0 e.G0)) ?_;rfl
  | true=>
   refine bindq hw ?_;show some (Sum.inl ((vs,(),(),(),(),l,IntKind.i64.wrap ((i:Int) + 1),()),_))=_;rw [wrap1 hi (show l.length≤nu' by unfold nu'; omega)]
   rfl
theorem n1o' {m:Img} (hm:ImgOK b m) (vs:List View) {l:List Entry} (hl:l.length≤64) (hv:∀ e ∈ l,nk' b e.C0 e.G0=true) {X:Rnd} (hX:X.ok b) (hr:X.recs.length≤1000):nlx' ((vs,(),(),(),(),l,(0:Int),()),(b.tup,m.tup,Rnd.none.tup,X.tup,()))=some ((vs,(),(),(),()),(b.tup,Rnd.none.tup,(regF b m l X).tup,())):=by
 have key:∀ (k i:Nat) (Y:Rnd),i + k=l.length→Y.ok b→Y.recs.length≤1000 + i→iter (fun x=>letI a:=x.2.2.2; letI g:=a.2.1; letI b:=g.2.2.2.2; letI k:=a.1.2; letI c:=k.2.2.2; letI d:=x.2.1.2.2; letI e:=c.2.2.2; letI f:=b.2.2.2; letI h:=d.2.2; letI j:=x.2.2.1; ngh' x.1.1 x.1.2.2.2.2.2.1 x.1.2.2.2.2.2.2.1 x.2.1.1 x.2.1.2.1 d.1 d.2.1 h.1 h.2.1 h.2.2.1 h.2.2.2.1 j.1 j.2.1 j.2.2.1 j.2.2.2.1 a.1.1 k.1 k.2.1 k.2.2.1 c.1 c.2.1 c.2.2.1 e.1 e.2.1 e.2.2.1 e.2.2.2.1 e.2.2.2.2.1 g.1 g.2.1 g.2.2.1 g.2.2.2.1 b.1 b.2.1 b.2.2.1 f.1 f.2.1 f.2.2.1 f.2.2.2.1 f.2.2.2.2.1) (k + 1) ((vs,(),(),(),(),l,(i:Int),()),(b.tup,m.tup,Rnd.none.tup,Y.tup,()))=some ((vs,(),(),(),()),(b.tup,Rnd.none.tup,(regF b m (l.drop i) Y).tup,())):=by
  intro k
  induction k with
  | zero=>
   intro i Y hi _ _;obtain rfl:i=l.length:=by omega
   refine no' ?_;show ngh' vs l (l.length:Int) b.D0 b.E0 b.I0 b.Q0 b.J0 b.K0 b.P0 b.A0 m.F0 m.N0 m.H0 m.B0 [] [] [] [] [] [] [] [] 0 0 0 0 Y.recs Y.img.F0 Y.img.N0 Y.img.H0 Y.img.B0 Y.xs Y.lan.lit Y.lan.gong Y.lan.cl.1 Y.lan.cl.2 Y.ref.1 Y.ref.2=_;unfold ngh';rw [decide_eq_false (Int.lt_irrefl (l.length:Int)),List.drop_length];rfl
  | succ k ih=>
   intro i Y hi hY hr;have hi':i < l.length:=by omega
   have hv':=hv _ (n5' noE hi');have hrs:=n7x' b m (l.getD i noE) Y;rw [nba' noE hi'];exact (nv' (nbcx' hb hcode hm vs hl hi' hv' hY (by omega))).trans (ih (i + 1) _ (by omega) (nbdp' hY hv') (by omega))
 have h:=key l.length 0 X (by omega) hX (by omega)
 rw [List.drop_zero] at h;exact ng' h (by omega)
end
section
variable {b:Bldg} {m:Img} {vs:List View} {xs:List Int} (h:PlanW b m vs xs) {ps:List Calls} (hp:ps.length=b.A0.length) (press:Int×Int)
include h
theorem n1f' (good:Bool):nmf' b.D0 b.E0 b.I0 b.Q0 b.J0 b.K0 b.P0 b.A0 (tickX b m xs vs ps press good).img.F0 (tickX b m xs vs ps press good).img.N0 (tickX b m xs vs ps press good).img.H0 (tickX b m xs vs ps press good).img.B0 (tickX b m xs vs ps press good).xs vs=some (tickP b m xs vs ps press good,()):=by
 have hcc:=h.cars;have hvl:=h.made.len;have hmx:100000≤maxLen:=by decide
 obtain ⟨hok,_⟩:=nwm' h.small h.code h.img h.xlen (vs:=vs) ps press good;have hXl:=nbf' h.small hok.img;have hXp:=hok.img.lp;have hXx:=hok.len;exact n5y' h.small h.made.ok (by omega) (tickX b m xs vs ps press good).img (by omega) (by omega) (tickX b m xs vs ps press good).xs (by omega)
theorem n2x' (good:Bool):nfs' b.D0 b.E0 b.I0 b.Q0 b.J0 b.K0 b.P0 b.A0 (tickX b m xs vs ps press good).recs (tickX b m xs vs ps press good).img.F0 (tickX b m xs vs ps press good).img.N0 (tickX b m xs vs ps press good).img.H0 (tickX b m xs vs ps press good).img.B0 (tickX b m xs vs ps press good).xs (tickX b m xs vs ps press good).lan.lit (tickX b m xs vs ps press good).lan.gong (tickX b m xs vs ps press good).lan.cl.1 (tickX b m xs vs ps press good).lan.cl.2 (tickX b m xs vs ps press good).ref.1 (tickX b m xs vs ps press good).ref.2 (tickP b m xs vs ps press good).1=some (((),()),((wrL (tickP b m xs vs ps press good).1 (tickX b m xs vs ps press good)).tup,())):=by
 obtain ⟨hok,hrl⟩:=nwm' h.small h.code h.img h.xlen (vs:=vs) ps press good;have hXl:=nbf' h.small hok.img;have hv:∀ r ∈ (tickP b m xs vs ps press good).1,np' b r=true:=n44' h.code hok.img _;have hk:∀ r ∈ (tickP b m xs vs ps press good).1,r.U0=3∨r.U0=7:=n8x' b _ _ vs;have hpl:(tickP b m xs vs ps press good).1.length≤_:=(n0m' b (tickX b m xs vs ps press good).img (tickX b m xs vs ps press good).xs vs).1;refine nrs' h.small h.code hok (by omega) hv ?_ (by omega)
 exact nt3' hok.img hok.len fun r hr=>⟨hv r hr,by have:=hk r hr; omega⟩
include hp
theorem n41' (good:Bool):no0' b.D0 b.E0 b.I0 b.Q0 b.J0 b.K0 b.P0 b.A0 m.F0 m.N0 m.H0 m.B0 xs vs ps press.1 press.2 good=some (((),0,()),((tickV b m xs vs ps press good).tup,())):=by
 have hb:=h.small;have hcode:=h.code;have hcc:=h.cars;have hvl:=h.made.len;have hmx:100000≤maxLen:=by decide
 have he:=nbf' hb h.img;have hlp:=h.img.lp;have hxl:=h.xlen;have e1:=nbk' hb m (by omega) (by omega)
 rw [Img.ok_iff.2 h.img] at e1;have e2:=nv7' m (xs:=xs) (by omega)
 rw [h.exp,show ((xs.length:Int)==(m.B0.length:Int))=true by rw [h.xlen]; exact beq_self_eq_true _] at e2
 have n1:(((vs.length:Nat):Int) != ((b.A0.length:Nat):Int))=false:=by rw [hvl,bne_self_eq_false]
 have n2:(((ps.length:Nat):Int) != ((b.A0.length:Nat):Int))=false:=by rw [hp,bne_self_eq_false]
 have hH:=nne' hb hcode;have hX:∀ L:Lan,Rnd.ok b ⟨[],m,xs,L,(0,0)⟩:=fun L=>⟨h.img,h.xlen⟩
 unfold no0';refine bindq e1 ?_;refine bindq e2 ?_;simp only [n1,n2,cond_false];cases good with
 | true=>
  have hlight:=n4b' hb hcode vs ps (by omega)
  have hlR:nur' b vs ps=(njp' b vs ps,0):=by
   unfold nur';rw [show ((vs.length:Int)==(b.A0.length:Int))=true by rw [hvl]; exact beq_self_eq_true _,show ((ps.length:Int)==(b.A0.length:Int))=true by rw [hp]; exact beq_self_eq_true _]
   rfl
  rw [hlR] at hlight;have hsv:=nv1' hcode vs (l:=m.B0) fun e he=>(nc0'.1 (h.img.en e he)).1
  have hsl:=nup' b vs m.B0;have hserve:=n23' hb hcode h.img (by omega) vs (by omega)
  have hw1:=nrs' hb hcode (hX (njp' b vs ps)) (l:=servL b vs m.B0) (by omega) (fun r hr=>(hsv r hr).1) (nt3' h.img h.xlen fun r hr=>⟨(hsv r hr).1,by rw [(hsv r hr).2]; omega⟩) (Nat.zero_le _)
  have hok1:(wrL (servL b vs m.B0) ⟨[],m,xs,njp' b vs ps,(0,0)⟩).ok b:=nxv' (hX _) fun r hr=>(hsv r hr).1
  have hlc:=n1b' (bothC press (hallC b));have hloop:=n1o' hb hcode h.img vs hlc (fun e he=>nbcp' hb hcode he) hok1 (by show ([]++servL b vs m.B0).length≤_; rw [List.nil_append]; omega)
  rw [nbbe' h] at hloop;have hpl:=n1f' h (ps:=ps) press true;have hen:=n2x' h (ps:=ps) press true;refine bindq (a:=((vs,(),(),(),(),(),()),(b.tup,m.tup,(press.1,press.2,()),Rnd.none.tup,(wrL (servL b vs m.B0) ⟨[],m,xs,njp' b vs ps,(0,0)⟩).tup,()))) ?_ ?_
  ·refine bindq hlight ?_
   refine bindq rfl ?_;refine bindq hserve ?_;exact bindq hw1 rfl
  refine bindq hH ?_;refine bindq (njc' press (hallC b)) ?_;refine bindq (nrt' (ns2' press (hallC b))) ?_;refine bindq hloop ?_;refine bindq hpl ?_;refine bindq rfl ?_;refine bindq hen ?_;rfl
 | false=>
  have hz:listC (bothC (0,0) (hallC b))=[]:=nbb1' fun f hf d=>by rw [nel',nn1']; rfl
  have hloop:=n1o' hb hcode h.img vs (l:=[]) (Nat.zero_le _) (fun e he=>by cases he) (hX (darkV vs.length)) (Nat.zero_le _)
  have hli:=nrt' (ns2' (0,0) (hallC b));rw [hz] at hli;have hpl:=n1f' h (ps:=ps) press false;have hen:=n2x' h (ps:=ps) press false;refine bindq (a:=((vs,(),(),(),(),(),()),(b.tup,m.tup,(0,0,()),Rnd.none.tup,(⟨[],m,xs,darkV vs.length,(0,0)⟩:Rnd).tup,()))) ?_ ?_
  ·simp only [decide_eq_true (show (0:Int)≤(vs.length:Int) by omega),decide_eq_true (Int.le_refl (vs.length:Int)),decide_eq_true (show (vs.length:Int)≤2147483648 by omega),Bool.and_self,cond_true,cond_false,Int.toNat_natCast]
   rfl
  refine bindq hH ?_;refine bindq (njc' (0,0) (hallC b)) ?_;refine bindq hli ?_;refine bindq hloop ?_;refine bindq hpl ?_;refine bindq rfl ?_;refine bindq hen ?_;rfl
end
def powV (floor:Int):Int:=IntKind.u32.wrap (1 * 2 ^ min (Int.toNat floor) (IntKind.bits .u32))
def oneV (floor dir:Int):Int×Int:=
 bif inR 0 31 floor then (bif dir==1 then (powV floor,0) else bif dir==2 then (0,powV floor) else (0,0)) else (0,0)
theorem nxx' (floor dir:Int):nc5' floor dir=some (((),()),(((oneV floor dir).1,(oneV floor dir).2,()),())):=by
 unfold nc5' oneV inR;by_cases g:floor < 0
 ·rw [decide_eq_true g,decide_eq_false (show ¬ 0≤floor by omega)]; rfl
 ·rw [decide_eq_false g,decide_eq_true (show 0≤floor by omega)]
  by_cases g':31 < floor
  ·rw [decide_eq_true g',decide_eq_false (show ¬ floor≤31 by omega)]; rfl
  ·rw [decide_eq_false g',decide_eq_true (show floor≤31 by omega)]
   have w:IntKind.u64.wrap floor=floor:=ncd' (by omega) (by omega)
   simp only [cond_false,w,decide_eq_true (show 0≤floor by omega),cond_true,Bool.and_self]
   cases dir==1 <;> cases dir==2 <;> rfl
def orV (a c:Int):Int:=IntKind.u32.wrap (stk a c (BitVec.toNat (BitVec.ofInt (IntKind.bits .u32) a ||| BitVec.ofInt (IntKind.bits .u32) c)))
def n3n' (a c:Int×Int):Int×Int:=(orV a.1 c.1,orV a.2 c.2)
theorem n3m' (a c:Int×Int):nbw' a.1 a.2 c.1 c.2=some (((),()),(((n3n' a c).1,(n3n' a c).2,()),())):=rfl
def stopB (vs:List View) (car:Int) (e:Entry):Bool:=e.O0==car||(e.O0==-2&&(nl' vs car).J2)
def np4' (vs:List View) (car:Int) (e:Entry) (c:Int×Int):Int×Int:=bif stopB vs car e then n3n' c (oneV e.C0 e.G0) else c
def nsg' (vs:List View) (car:Int):List Entry→Int×Int→Int×Int
 | [],c=>c
 | e :: t,c=>nsg' vs car t (np4' vs car e c)
def nr9' (b:Bldg) (m:Img) (vs:List View) (car:Int):Int×Int:=
 bif m.ok b&&((vs.length:Int)==(b.A0.length:Int)&&(decide (0≤car)&&decide (car < (b.A0.length:Int)))) then nsg' vs car m.B0 (0,0) else (0,0)
section
variable {vs:List View} {car:Int} (hc:0≤car∧car < vs.length) {m:Img} (hm:m.B0.length≤1000)
include hc hm
theorem nsj':∀ (k i:Nat) (c:Int×Int),i + k=m.B0.length →
  iter (fun x=>nfb' x.1.1 x.1.2.1 x.1.2.2.2.2.2.1 x.2.1.1 x.2.1.2.1 x.2.1.2.2.1 x.2.1.2.2.2.1 x.2.2.1.1 x.2.2.1.2.1 x.2.2.2.1.1 x.2.2.2.1.2.1) (k + 1) ((vs,car,(),(),(),(i:Int),()),(m.tup,((0:Int),(0:Int),()),(c.1,c.2,()),()))=some (((),(),()),(((0:Int),(0:Int),()),((nsg' vs car (m.B0.drop i) c).1,(nsg' vs car (m.B0.drop i) c).2,()),()))
 | 0,i,c,hi=>by
  refine no' ?_;show nfb' vs car (i:Int) m.F0 m.N0 m.H0 m.B0 0 0 c.1 c.2=_;unfold nfb';rw [show decide ((i:Int) < (m.B0.length:Int))=false by simp; omega,show i=m.B0.length by omega,List.drop_length]; rfl
 | k + 1,i,c,hi=>by
  have hi':i < m.B0.length:=by omega
  have w:IntKind.i64.wrap ((i:Int) + 1)=((i + 1:Nat):Int):=by rw [nc' (by omega) (by omega)]; omega
  rw [nba' noE hi'];refine (nv' (x':=((vs,car,(),(),(),((i + 1:Nat):Int),()),(m.tup,((0:Int),(0:Int),()),((np4' vs car (m.B0.getD i noE) c).1,(np4' vs car (m.B0.getD i noE) c).2,()),()))) ?_).trans (nsj' k (i + 1) _ (by omega))
  show nfb' vs car (i:Int) m.F0 m.N0 m.H0 m.B0 0 0 c.1 c.2=_;unfold nfb';rw [show decide ((i:Int) < (m.B0.length:Int))=true by simp; omega,na' (show (0:Int)≤(i:Int) by omega) (show (i:Int) < (m.B0.length:Int) by omega),show Entry.mk 0 0 0 0 false=noE from rfl]
  unfold np4' stopB nl';have hu:=n3m' c (oneV (m.B0.getD i noE).C0 (m.B0.getD i noE).G0);simp only [cond_true,Int.toNat_natCast];cases (m.B0.getD i noE).O0==car with
  | true=>simp only [cond_true,Option.bind_some,Bool.true_or,nxx',hu,w]; rfl
  | false=>
   cases (m.B0.getD i noE).O0==-2 with
   | true=>
    simp only [cond_true,cond_false,na' hc.1 hc.2,Option.bind_some,Bool.false_or,Bool.true_and];cases (vs.getD car.toNat (View.mk false false false false 0 0 0 0 0 0 0 0)).J2 with
    | true=>simp only [cond_true,nxx',Option.bind_some,hu,w]; rfl
    | false=>simp only [cond_false,w]; rfl
   | false=>simp only [cond_false,Option.bind_some,Bool.false_and,Bool.or_self,w]; rfl
end
section
variable {b:Bldg} (hb:b.small) (vs:List View) (m:Img) (hm:m.B0.length≤1000) (hp:m.F0.length≤maxLen) (car:Int)
include hb hm hp
theorem nqn':nhs' b.D0 b.E0 b.I0 b.Q0 b.J0 b.K0 b.P0 b.A0 m.F0 m.N0 m.H0 m.B0 vs car=some (((),()),(((nr9' b m vs car).1,(nr9' b m vs car).2,()),())):=by
 have hmx:1000≤maxLen:=by decide
 unfold nhs' nr9';rw [nbk' hb m hp (by omega)]
 simp only [Option.bind_some,bne];cases hok:m.ok b with
 | false=>rfl
 | true=>
  cases hq:(vs.length:Int)==(b.A0.length:Int) with
  | false=>rfl
  | true=>
   have hq':(vs.length:Int)=(b.A0.length:Int):=by simpa using hq
   by_cases g:0≤car
   ·rw [decide_eq_true g,decide_eq_false (show ¬ car < 0 by omega)]
    by_cases g':car < (b.A0.length:Int)
    ·rw [decide_eq_true g',decide_eq_false (show ¬ (b.A0.length:Int)≤car by omega)]
     have hlp:=ng' (nsj' (vs:=vs) (car:=car) ⟨g,by omega⟩ hm m.B0.length 0 (0,0) (by omega)) (by omega)
     have hlp':nkg' ((vs,car,(),(),(),(0:Int),()),(m.tup,((0:Int),(0:Int),()),((0:Int),(0:Int),()),()))=_:=hlp;unfold Img.tup at hlp';simp only [Bool.not_true,cond_false,hlp',Option.bind_some,List.drop_zero,Bool.and_self,cond_true]
    ·rw [decide_eq_false g',decide_eq_true (show (b.A0.length:Int)≤car by omega)]; rfl
   ·rw [decide_eq_false g,decide_eq_true (show car < 0 by omega)]; rfl
end
theorem n1i' (a:Int) (b c d e:Bool) {i:Int} (hi:i≤35):Sat (nof' a b c d e i) fun _=>True:=by
 unfold nof';refine Sat.bif (fun _=>Sat.ret trivial) fun g1=>Sat.bif (fun _=>Sat.ret trivial) fun _=>Sat.bif (fun _=>Sat.bifT (nje' _) (Sat.ret trivial)) fun g3=>?_
 have g1:=of_decide_eq_false g1;have g3:=of_decide_eq_false g3;have w:IntKind.i64.wrap (i - 32)=i - 32:=nc' (by omega) (by omega)
 exact Sat.bifT (na' (by show 0≤IntKind.i64.wrap (i - 32); omega) (by show IntKind.i64.wrap (i - 32) < (4:Int); omega)) (Sat.ret trivial)
theorem nbbw' (a:Int) (b c d e:Bool) (i:Int) (o:Bool):Sat (nqy' a b c d e i o) fun _=>True:=by
 unfold nqy';exact Sat.go
theorem n7g' (n:Int) (x:Debounced) (a:Int) (b c d e:Bool):Sat (nps' n x.Z0 x.V1 x.L1 x.M1 x.F1 x.U4 x.V4 x.X4 x.Y4 x.Z4 x.A5 x.B5 x.C5 x.D5 x.E5 x.R3 x.T3 x.U3 x.V3 x.X3 x.Y3 x.Z3 x.A4 x.B4 x.C4 x.D4 x.E4 x.F4 x.G4 x.H4 x.I4 x.J4 x.K4 x.L4 x.M4 x.N4 x.O4 x.P4 x.Q4 x.R4 x.S4 a b c d e) fun _=>True:=by
 unfold nps';rw [nse'];refine Sat.bindR (Sat.bif (fun _=>Sat.ret trivial) fun _=>Sat.bindS (Q:=fun _=>True) ?_ fun _ _=>Sat.ret trivial)
 refine Sat.loop (fun (k:Nat) x=>(0:Int)≤x.1.2.2.2.2.1∧(36:Int)≤x.1.2.2.2.2.1 + (k:Int)) (fun k x hx=>?_) 36 ⟨Int.le_refl 0,show (36:Int)≤0 + ((36:Nat):Int) by omega⟩ (by decide)
 unfold nuy';obtain ⟨h1,h2⟩:=hx;refine Sat.bif (fun g=>?_) (fun _=>Sat.ret trivial)
 have g:x.1.2.2.2.2.1 < (36:Int):=of_decide_eq_true g;have w:IntKind.i64.wrap (x.1.2.2.2.2.1 + 1)=x.1.2.2.2.2.1 + 1:=nc' (by omega) (by omega)
 have ib:inB x.1.2.2.2.2.1 36=true:=na' h1 g;have fin:(0:Int)≤IntKind.i64.wrap (x.1.2.2.2.2.1 + 1)∧(36:Int)≤IntKind.i64.wrap (x.1.2.2.2.2.1 + 1) + ((k - 1:Nat):Int):=by omega
 refine Sat.bindS (n1i' _ _ _ _ _ (by omega)) fun _ _=>Sat.bindS (n1i' _ _ _ _ _ (by omega)) fun _ _=>?_
 refine Sat.bif (fun _=>Sat.bifT ib (Sat.ret ⟨k - 1,by omega,fin⟩)) fun _=>Sat.bifT ib ?_
 refine Sat.bif (fun _=>Sat.bindS (nbbw' _ _ _ _ _ _ _) fun _ _=>Sat.bifT ib (Sat.ret ⟨k - 1,by omega,fin⟩)) fun _=>?_
 exact Sat.bifT ib (Sat.bifT ib (Sat.ret ⟨k - 1,by omega,fin⟩))
def K456 (l:List Record):Prop:=∀ r ∈ l,r.U0=4∨r.U0=5∨r.U0=6
def K1 (l:List Record):Prop:=l.length≤1∧K456 l
theorem K1.nil:K1 []:=⟨Nat.zero_le _,fun r h=>by cases h⟩
theorem K1.one {r:Record} (h:r.U0=4∨r.U0=5∨r.U0=6):K1 [r]:=⟨Nat.le_refl 1,fun x hx=>by rw [List.mem_singleton] at hx; subst hx; exact h⟩
theorem K1.r4 (a b c d:Int):K1 [Record.mk 4 a b c d]:=K1.one (.inl rfl)
theorem K1.r5 (a b c d:Int):K1 [Record.mk 5 a b c d]:=K1.one (.inr (.inl rfl))
theorem K1.r6 (a b c d:Int):K1 [Record.mk 6 a b c d]:=K1.one (.inr (.inr rfl))
theorem K456.app {l r:List Record} (h:K456 l) (h':K456 r):K456 (l++r):=fun x hx=>by
 rcases List.mem_append.1 hx with hx | hx
 ·exact h x hx
 ·exact h' x hx
section
variable {b:Bldg} (hb:b.small) {m:Img} (hm:ImgOK b m)
include hm in
theorem n1w':Sat (nj0' m.F0 m.N0 m.H0 m.B0) fun _=>True:=by
 have hc:=nn' hm.code;have hp:=hm.lp;have hl:=hm.ll;unfold nj0';refine Sat.bindS (Q:=fun _=>True) ?_ fun _ _=>Sat.ret trivial
 refine Sat.loop (fun (k:Nat) z=>∃ (n:Int) (i:Nat),z=(((),n,(i:Int),()),(m.tup,()))∧i + k=m.F0.length) (fun k z hz=>?_) m.F0.length ⟨_,0,rfl,Nat.zero_add _⟩ (by omega)
 obtain ⟨n,i,rfl,hk⟩:=hz;unfold nq1';refine Sat.bif (fun g=>?_) fun _=>Sat.ret trivial
 have g:(i:Int) < (m.F0.length:Int):=of_decide_eq_true g;have i1:inB (i:Int) m.F0.length=true:=na' (by omega) g
 have i2:inB (i:Int) m.H0.length=true:=na' (by omega) (by omega)
 have w:=wrapN (n:=i) (by omega)
 refine Sat.bindS (Q:=fun y=>∃ q:Bool,y=(((),n,(i:Int),q,()),(m.tup,()))) ?_ fun y hy=>?_
 ·exact Sat.bifT i1 (Sat.bif (fun _=>Sat.bifT i1 (Sat.bif (fun _=>Sat.ret ⟨_,rfl⟩) fun _=>Sat.bifT i2 (Sat.ret ⟨_,rfl⟩))) fun _=>Sat.bifT i2 (Sat.ret ⟨_,rfl⟩))
 ·obtain ⟨q,rfl⟩:=hy
  refine Sat.bif (fun _=>Sat.ret ⟨k - 1,by omega,IntKind.i64.wrap (n + 1),i + 1,?_,by omega⟩) fun _=>Sat.ret ⟨k - 1,by omega,n,i + 1,?_,by omega⟩
  ·rw [← w]
  ·rw [← w]
theorem nwy' (car:Int) (hl:m.B0.length≤1000):Sat (nhb' m.F0 m.N0 m.H0 m.B0 car) fun _=>True:=by
 unfold nhb';refine Sat.bindS (Q:=fun _=>True) ?_ fun y _=>by cases y <;> exact Sat.ret trivial
 refine Sat.loop (fun (k:Nat) z=>∃ (i:Nat),z=((car,(),(i:Int),()),(m.tup,()))∧i + k=m.B0.length) (fun k z hz=>?_) m.B0.length ⟨0,rfl,Nat.zero_add _⟩ (by omega)
 obtain ⟨i,rfl,hk⟩:=hz;unfold nol';refine Sat.bif (fun g=>?_) fun _=>Sat.ret trivial
 have g:(i:Int) < (m.B0.length:Int):=of_decide_eq_true g;have i1:inB (i:Int) m.B0.length=true:=na' (by omega) g
 have w:=wrapN (n:=i) (by omega)
 refine Sat.bifT i1 (Sat.bif (fun _=>Sat.ret trivial) fun _=>Sat.ret ⟨k - 1,by omega,i + 1,?_,by omega⟩)
 rw [← w]
include hb hm
theorem n26':n7' b.D0 b.E0 b.I0 b.Q0 b.J0 b.K0 b.P0 b.A0 m.F0 m.N0 m.H0 m.B0=some ((true,()),()):=by
 have hc:=nn' hm.code;have he:=nbf' hb hm;have hp:=hm.lp;have hmx:100000≤maxLen:=by decide
 have e1:=nbk' hb m (by omega) (by omega)
 rw [Img.ok_iff.2 hm] at e1;exact e1
theorem n46' (kd car:Int) {calm:List Bool} (hcl:calm.length=b.A0.length):Sat (njr' b.D0 b.E0 b.I0 b.Q0 b.J0 b.K0 b.P0 b.A0 m.F0 m.N0 m.H0 m.B0 kd car calm) fun y=>K1 y.1.1:=by
 have ht:=n1w' hm;unfold njr' neh';refine Sat.bindE (n26' hb hm) (Sat.bif (fun _=>Sat.ret K1.nil) fun _=>Sat.bif (fun _=>Sat.ret K1.nil) fun _=>?_)
 refine Sat.bif (fun _=>Sat.ret K1.nil) fun _=>Sat.bif (fun _=>Sat.ret K1.nil) fun _=>?_
 refine Sat.bif (fun _=>Sat.ret K1.nil) fun g1=>Sat.bif (fun _=>Sat.ret K1.nil) fun g2=>?_
 have g1:=of_decide_eq_false g1;have g2:=of_decide_eq_false g2;have i1:inB car m.F0.length=true:=na' (by omega) (by rw [hm.lp]; omega)
 have i2:inB car m.H0.length=true:=na' (by omega) (by rw [hm.ll]; omega)
 have i3:inB car m.N0.length=true:=na' (by omega) (by rw [hm.lf]; omega)
 have i4:inB car calm.length=true:=na' (by omega) (by rw [hcl]; omega)
 repeat' first | (with_reducible first | refine Sat.bindR ?_ | refine Sat.bindA ?_ | refine Sat.cT ?_ | refine Sat.cF ?_ | refine Sat.bindC (fun _=>?_) (fun _=>?_) | refine Sat.bT ?_ | refine Sat.bF ?_ | refine Sat.bif (fun _=>?_) (fun _=>?_) | refine Sat.sT fun _ _=>?_) | exact Sat.ret K1.nil | exact Sat.ret (K1.r4 _ _ _ _) | exact Sat.ret (K1.r5 _ _ _ _) | exact Sat.ret (K1.r6 _ _ _ _)
end
theorem nek':u32r 0:=⟨Int.le_refl 0,by decide⟩
theorem nyb' (vs:List View) (car:Int):∀ (l:List Entry) (c:Int×Int),(u32r c.1∧u32r c.2)→u32r (nsg' vs car l c).1∧u32r (nsg' vs car l c).2
 | [],_,h=>h
 | e :: t,c,h=>nyb' vs car t _ (by
  unfold np4';cases stopB vs car e with
  | true=>exact ⟨ucR_w _,ucR_w _⟩
  | false=>exact h)
theorem n71' (b:Bldg) (m:Img) (vs:List View) (car:Int):u32r (nr9' b m vs car).1∧u32r (nr9' b m vs car).2:=by
 unfold nr9';cases m.ok b&&((vs.length:Int)==(b.A0.length:Int)&&(decide (0≤car)&&decide (car < (b.A0.length:Int)))) with
 | true=>exact nyb' vs car _ _ ⟨nek',nek'⟩
 | false=>exact ⟨nek',nek'⟩
theorem n40' {b:Bldg} (hb:b.small) (hcode:b.code=0) (x:NewCar) (hx:ucR x.N1) (f0:Int) (f1:Bool) (f2:Int) (f3:Bool):Sat (nnd' b.D0 b.E0 b.I0 b.Q0 b.J0 b.K0 b.P0 b.A0 x.K2 x.B2 x.O1 x.N2 x.G2 x.P2 x.H2 x.G1 x.X1 x.E1 x.N1 x.K3 x.T4 x.N3 f0 f1 f2 f3) fun _=>True:=by
 unfold nnd';rw [ni5' hb hcode x ⟨hx.1,by have:=hx.2; omega⟩]
 exact Sat.go
theorem n50' {b:Bldg} (hb:b.small) (hcode:b.code=0) (x:NewCar) (hx:ucR x.N1) (f0:Int) (f1:Bool) (f2:Int) (f3:Bool):Sat (nng' b.D0 b.E0 b.I0 b.Q0 b.J0 b.K0 b.P0 b.A0 x.K2 x.B2 x.O1 x.N2 x.G2 x.P2 x.H2 x.G1 x.X1 x.E1 x.N1 x.K3 x.T4 x.N3 f0 f1 f2 f3) fun _=>True:=by
 have hc:=nea' hb f0 x.K3;unfold nng';rw [ni5' hb hcode x ⟨hx.1,by have:=hx.2; omega⟩,hc,niv']
 exact Sat.go
section
variable {b:Bldg} (hb:b.small) {m:Img} (hm:ImgOK b m) {i:Nat} (hi:i < b.A0.length)
include hm hi
theorem n04':nn4' m.F0 m.N0 m.H0 m.B0 (i:Int)=some ((true,()),()):=by
 unfold nn4';rw [decide_eq_true (show (0:Int)≤(i:Int) by omega),decide_eq_true (show (i:Int) < (m.F0.length:Int) by rw [hm.lp]; omega),decide_eq_true (show (i:Int) < (m.N0.length:Int) by rw [hm.lf]; omega),decide_eq_true (show (i:Int) < (m.H0.length:Int) by rw [hm.ll]; omega)]
 rfl
theorem nvx':Sat (njs' m.F0 m.N0 m.H0 m.B0 (i:Int)) fun _=>True:=by
 have i1:inB (i:Int) m.F0.length=true:=na' (by omega) (by rw [hm.lp]; omega)
 have i2:inB (i:Int) m.H0.length=true:=na' (by omega) (by rw [hm.ll]; omega)
 have i3:inB (i:Int) m.N0.length=true:=na' (by omega) (by rw [hm.lf]; omega)
 unfold njs';rw [n04' hm hi];exact Sat.go
theorem n12':Sat (nj6' m.F0 m.N0 m.H0 m.B0 (i:Int)) fun _=>True:=by
 have i1:inB (i:Int) m.F0.length=true:=na' (by omega) (by rw [hm.lp]; omega)
 unfold nj6';rw [n04' hm hi];exact Sat.go
def vwU (t:Bool×Bool×Bool×Bool×Int×Int×Int×Int×Int×Int×Int×Int×Unit):Prop:=u32r t.2.2.2.2.2.2.2.2.2.1∧u32r t.2.2.2.2.2.2.2.2.2.2.1∧u32r t.2.2.2.2.2.2.2.2.2.2.2.1
theorem nwi':Sat (njg' m.F0 m.N0 m.H0 m.B0 (i:Int)) fun y=>vwU y.2.1:=by
 have i3:inB (i:Int) m.N0.length=true:=na' (by omega) (by rw [hm.lf]; omega)
 unfold njg';refine Sat.bindS (n12' hm hi) fun y _=>?_
 refine Sat.bindS (Q:=fun y=>vwU y.2.1) ?_ fun y hy=>Sat.ret hy
 exact Sat.bif (fun _=>Sat.ret ⟨nek',nek',nek'⟩) fun _=>Sat.bifT i3 (Sat.ret ⟨nek',nek',nek'⟩)
omit hi in
theorem nou':Sat (nfc' m.F0 m.N0 m.H0 m.B0) fun y=>y.1.1.length=b.A0.length:=by
 have hc:=nn' hm.code;have hp:=hm.lp;unfold nfc';refine Sat.bifT (by simp only [decide_eq_true (show (0:Int)≤(m.F0.length:Int) by omega),decide_eq_true (Int.le_refl (m.F0.length:Int)),decide_eq_true (show (m.F0.length:Int)≤2147483648 by omega),Bool.and_self]) ?_
 refine Sat.bindS (Q:=fun y=>y.1.1.length=b.A0.length) ?_ fun y hy=>Sat.ret hy
 refine Sat.loop (fun (k:Nat) z=>∃ (out:List View) (j:Nat),z=(((),out,(j:Int),()),(m.tup,()))∧out.length=b.A0.length∧j + k=b.A0.length) (fun k z hz=>?_) b.A0.length ⟨_,0,rfl,by rw [List.length_replicate,Int.toNat_natCast,hp],Nat.zero_add _⟩ (by omega)
 obtain ⟨out,j,rfl,ho,hk⟩:=hz;unfold nq9';refine Sat.bif (fun g=>?_) fun _=>Sat.ret ho
 have g:(j:Int) < (out.length:Int):=of_decide_eq_true g;have w:=wrapN (n:=j) (by omega)
 refine Sat.bindS (nvx' hm (i:=j) (by omega)) fun y _=>Sat.bifT (na' (show (0:Int)≤(j:Int) by omega) g) (Sat.ret ⟨k - 1,by omega,out.set j (View.mk y.1.1 (out.getD j (View.mk false false false false 0 0 0 0 0 0 0 0)).E3 (out.getD j (View.mk false false false false 0 0 0 0 0 0 0 0)).F3 (out.getD j (View.mk false false false false 0 0 0 0 0 0 0 0)).J3 (out.getD j (View.mk false false false false 0 0 0 0 0 0 0 0)).C0 (out.getD j (View.mk false false false false 0 0 0 0 0 0 0 0)).G0 (out.getD j (View.mk false false false false 0 0 0 0 0 0 0 0)).H3 (out.getD j (View.mk false false false false 0 0 0 0 0 0 0 0)).A3 (out.getD j (View.mk false false false false 0 0 0 0 0 0 0 0)).T2 (out.getD j (View.mk false false false false 0 0 0 0 0 0 0 0)).X2 (out.getD j (View.mk false false false false 0 0 0 0 0 0 0 0)).I2 (out.getD j (View.mk false false false false 0 0 0 0 0 0 0 0)).Z1),j + 1,?_,by rw [List.length_set]; exact ho,by omega⟩)
 rw [← w]; rfl
omit hi in
include hb in
theorem n7p' {calm:List Bool} (hcl:calm.length=b.A0.length):Sat (nls' b.D0 b.E0 b.I0 b.Q0 b.J0 b.K0 b.P0 b.A0 m.F0 m.N0 m.H0 m.B0 calm) fun y=>y.1.1.length≤100∧K456 y.1.1:=by
 have hc:=nn' hm.code;have hp:=hm.lp;have he:=nbf' hb hm;unfold nls';refine Sat.bindE (n26' hb hm) (Sat.bifF rfl ?_);refine Sat.bif (fun _=>Sat.ret ⟨Nat.zero_le _,K1.nil.2⟩) fun _=>?_
 refine Sat.bindS (Q:=fun y=>y.1.1.length≤100∧K456 y.1.1) ?_ fun y hy=>Sat.ret hy
 refine Sat.loop (fun (k:Nat) z=>∃ (out:List Record) (j:Nat),z=((calm,(),out,(j:Int),()),(m.tup,()))∧out.length≤3 * j∧K456 out∧j + k=b.A0.length) (fun k z hz=>?_) b.A0.length ⟨[],0,rfl,Nat.le_refl 0,K1.nil.2,Nat.zero_add _⟩ (by omega)
 obtain ⟨out,j,rfl,ho,hk4,hk⟩:=hz;unfold nt7';refine Sat.bif (fun g=>?_) fun _=>Sat.ret ⟨show out.length≤100 by omega,hk4⟩
 have g:(j:Int) < (m.F0.length:Int):=of_decide_eq_true g;have w:=wrapN (n:=j) (by omega)
 have i1:inB (j:Int) m.F0.length=true:=na' (by omega) g
 have i2:inB (j:Int) m.H0.length=true:=na' (by omega) (by rw [hm.ll]; omega)
 have i3:inB (j:Int) m.N0.length=true:=na' (by omega) (by rw [hm.lf]; omega)
 have i4:inB (j:Int) calm.length=true:=na' (by omega) (by rw [hcl]; omega)
 refine Sat.bindS (Q:=fun y=>∃ q:Bool,y=((calm,(),out,(j:Int),q,()),(m.tup,()))) ?_ fun y hy=>?_
 ·exact Sat.bifT i1 (Sat.bif (fun _=>Sat.bifT i2 (Sat.ret ⟨_,rfl⟩)) fun _=>Sat.ret ⟨_,rfl⟩)
 obtain ⟨q,rfl⟩:=hy;refine Sat.bindS (Q:=fun y=>∃ r:Bool,y=((calm,(),out,(j:Int),q,r,()),(m.tup,()))) ?_ fun y hy=>?_
 ·refine Sat.bifT i4 (Sat.bif (fun _=>Sat.ret ⟨_,rfl⟩) fun _=>?_)
  refine Sat.bindS (nwy' (m:=m) (j:Int) (by omega)) fun _ _=>Sat.bif (fun _=>Sat.ret ⟨_,rfl⟩) fun _=>?_
  exact Sat.bifT i1 (Sat.bif (fun _=>Sat.ret ⟨_,rfl⟩) fun _=>Sat.ret ⟨_,rfl⟩)
 obtain ⟨r,rfl⟩:=hy;refine Sat.bif (fun _=>Sat.ret ⟨k - 1,by omega,out,j + 1,by rw [← w],by omega,hk4,by omega⟩) fun _=>?_
 refine Sat.bindE rfl (Sat.bifT (nh' (show out.length + 1≤_ by omega)) ?_)
 have l1:(out++[Record.mk 4 0 0 (j:Int) 2]).length≤3 * j + 1:=by rw [List.length_append]; show out.length + 1≤_; omega
 have k1:K456 (out++[Record.mk 4 0 0 (j:Int) 2]):=hk4.app (K1.r4 _ _ _ _).2;refine Sat.bindS (Q:=fun y=>∃ o:List Record,y=((calm,(),o,(j:Int),()),(m.tup,()))∧o.length≤3 * j + 2∧K456 o) ?_ fun y hy=>?_
 ·refine Sat.bif (fun _=>?_) fun _=>Sat.ret ⟨_,rfl,by show (out++[Record.mk 4 0 0 (j:Int) 2]).length≤_; omega,k1⟩
  refine Sat.bifT (nh' (show (out++[Record.mk 4 0 0 (j:Int) 2]).length + 1≤_ by omega)) (Sat.ret ⟨_,rfl,?_,k1.app (K1.r6 _ _ _ _).2⟩)
  show ((out++[Record.mk 4 0 0 (j:Int) 2])++[Record.mk 6 0 0 (j:Int) 0]).length≤_;rw [List.length_append];show (out++[Record.mk 4 0 0 (j:Int) 2]).length + 1≤_;omega
 obtain ⟨o,rfl,l2,k2⟩:=hy;refine Sat.bifT i3 (Sat.bif (fun _=>?_) fun _=>Sat.ret ⟨k - 1,by omega,o,j + 1,by rw [← w],by omega,k2,by omega⟩)
 refine Sat.bifT (nh' (show o.length + 1≤_ by omega)) (Sat.ret ⟨k - 1,by omega,o++[Record.mk 5 0 0 (j:Int) 0],j + 1,by rw [← w],?_,k2.app (K1.r5 _ _ _ _).2,by omega⟩)
 rw [List.length_append];show o.length + 1≤_;omega
end
section
variable {b:Bldg} (hb:b.small) {m:Mch} (hm:ImgOK b m.L0) (hbl:m.S0.length=b.A0.length) (hcl:m.A0.length=b.A0.length) (hll:m.A2.length=b.A0.length) (hbd:∀ x ∈ m.S0,x.M0.length≤1000) (hcu:∀ x ∈ m.A0,ucR x.N1) {i:Nat} (hi:i < b.A0.length)
include hb hm hbl hcl hll hbd hcu hi
theorem n78' (f0:Int) (f1:Bool) (f2:Int) (f3:Bool):Sat (npn' b.D0 b.E0 b.I0 b.Q0 b.J0 b.K0 b.P0 b.A0 m.L0.F0 m.L0.N0 m.L0.H0 m.L0.B0 m.Y0.h0 m.Y0.h1 m.Y0.sel m.C1 m.S0 m.A0 m.A2 m.J1 m.B3 m.I3 m.Q2 m.E2 f0 f1 f2 f3 (i:Int)) fun y=>vwU y.2.1:=by
 have hc:=nn' hm.code;have he:=nbf' hb hm;have hp:=hm.lp;have hmx:100000≤maxLen:=by decide
 have i1:inB (i:Int) m.L0.F0.length=true:=na' (by omega) (by omega)
 have i2:inB (i:Int) m.S0.length=true:=na' (by omega) (by omega)
 have i3:inB (i:Int) m.A0.length=true:=na' (by omega) (by omega)
 have i4:inB (i:Int) m.A2.length=true:=na' (by omega) (by omega)
 unfold npn';refine Sat.bindS (nwi' hm hi) fun v hv=>?_
 refine Sat.bindS (nvx' hm hi) fun r _=>?_
 refine Sat.bifT i1 (Sat.bindS (Q:=fun _=>True) (by unfold n6'; exact Sat.go) fun p _=>?_)
 refine Sat.bif (fun _=>?_) fun _=>?_
 ·refine Sat.bifT i2 (Sat.bifT i2 ?_)
  refine Sat.bindS (Q:=fun y=>vwU y.2.2.1) ?_ fun y hy=>Sat.ret hy
  have hD:(m.S0.getD i (Belief.mk 0 0 0 [] 0 false)).M0.length≤1000:=hbd _ (n5' _ (by omega))
  refine Sat.loop (fun (k:Nat) z=>∃ (v:Bool×Bool×Bool×Bool×Int×Int×Int×Int×Int×Int×Int×Int×Unit) (j:Nat),z=(((i:Int),(),(),(),(j:Int),()),(m.tup,(false,false,false,false,(0:Int),(0:Int),(0:Int),(0:Int),(0:Int),(0:Int),(0:Int),(0:Int),()),v,()))∧vwU v∧j + k=(m.S0.getD i (Belief.mk 0 0 0 [] 0 false)).M0.length) (fun k z hz=>?_) (m.S0.getD i (Belief.mk 0 0 0 [] 0 false)).M0.length ⟨_,0,rfl,hv,Nat.zero_add _⟩ (by omega)
  obtain ⟨v,j,rfl,hu,hk⟩:=hz;unfold nt9';refine Sat.bifT i2 (Sat.bif (fun g=>?_) fun _=>Sat.ret hu)
  have g:(j:Int) < ((m.S0.getD i (Belief.mk 0 0 0 [] 0 false)).M0.length:Int):=of_decide_eq_true g;have w:=wrapN (n:=j) (by omega)
  refine Sat.bifT i2 (Sat.bifT (na' (show (0:Int)≤(j:Int) by omega) g) ?_)
  refine Sat.bindE (niv' _ _) (Sat.bindE (nev' (v.2.2.2.2.2.2.2.2.2.2.1,v.2.2.2.2.2.2.2.2.2.2.2.1) _) ?_);refine Sat.ret ⟨k - 1,by omega,(v.1,v.2.1,v.2.2.1,v.2.2.2.1,v.2.2.2.2.1,v.2.2.2.2.2.1,v.2.2.2.2.2.2.1,v.2.2.2.2.2.2.2.1,v.2.2.2.2.2.2.2.2.1,v.2.2.2.2.2.2.2.2.2.1,(n1' (v.2.2.2.2.2.2.2.2.2.2.1,v.2.2.2.2.2.2.2.2.2.2.2.1) (oneC ((m.S0.getD i (Belief.mk 0 0 0 [] 0 false)).M0.getD j (Duty.mk 0 0 0)).C0 ((m.S0.getD i (Belief.mk 0 0 0 [] 0 false)).M0.getD j (Duty.mk 0 0 0)).G0)).1,(n1' (v.2.2.2.2.2.2.2.2.2.2.1,v.2.2.2.2.2.2.2.2.2.2.2.1) (oneC ((m.S0.getD i (Belief.mk 0 0 0 [] 0 false)).M0.getD j (Duty.mk 0 0 0)).C0 ((m.S0.getD i (Belief.mk 0 0 0 [] 0 false)).M0.getD j (Duty.mk 0 0 0)).G0)).2,()),j + 1,?_,⟨hu.1,nf0' _,nf0' _⟩,by omega⟩
  rw [← w]; rfl
 ·have hcu':=hcu (m.A0.getD i (NewCar.mk 0 0 0 0 0 false 0 0 0 0 0 0 0 false)) (n5' _ (by omega))
  refine Sat.bifT i3 (Sat.bifT i4 ?_);refine Sat.bindS (Q:=fun y=>∃ a4:Bool×Bool×Bool×Bool×Int×Int×Int×Int×Int×Int×Int×Int×Unit,y=(((i:Int),(),(),(),(),()),(b.tup,m.tup,(false,false,false,false,(0:Int),(0:Int),(0:Int),(0:Int),(0:Int),(0:Int),(0:Int),(0:Int),()),a4,()))) ?_ fun y hy=>?_
  ·refine Sat.bifT i1 (Sat.bif (fun _=>?_) fun _=>Sat.ret ⟨_,rfl⟩)
   exact Sat.bifT i3 (Sat.bindS (n50' hb hm.code _ hcu' _ _ _ _) fun _ _=>Sat.ret ⟨_,rfl⟩)
  obtain ⟨a4,rfl⟩:=hy;refine Sat.bifT i3 (Sat.bindS (nou' hm) fun rd _=>?_)
  have hs:=n71' b m.L0 rd.1.1 (i:Int);refine Sat.bindE (nqn' hb rd.1.1 m.L0 (by omega) (by omega) (i:Int)) ?_
  exact Sat.ret ⟨hcu',hs.1,hs.2⟩
end
end Go.Ovl
