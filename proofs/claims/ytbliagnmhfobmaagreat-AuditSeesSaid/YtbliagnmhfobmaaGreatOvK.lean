/- The frames of the statements about machines (layer 27): valid inputs, and their texts. -/
import Derived.Test.YtbliagnmhfobmaaGreatOvF
import Derived.Test.YtbliagnmhfobmaaGreatOvI
import Derived.Test.YtbliagnmhfobmaaGreatOvE
import Derived.Test.YtbliagnmhfobmaaGreatOvJ
namespace Go.Ovl
open Go Go.Ab
set_option maxRecDepth 100000
def maskV (b:Bldg):Int:=IntKind.u32.wrap (IntKind.u32.wrap (1 * 2 ^ min (Int.toNat (IntKind.u64.wrap b.D0)) (IntKind.bits .u32)) - 1)
theorem nxa' {b:Bldg} (hb:b.small):0≤maskV b∧maskV b < 2 ^ b.D0.toNat∧2 ^ b.D0.toNat≤(256:Int)∧(∀ f:Nat,f < 32→bitF (maskV b) f=true→(f:Int) < b.D0)∧(∀ f:Nat,f < 32→bitF (Int.fdiv (maskV b) ((2:Int) ^ (Min.min (Int.toNat (1:Int)) (IntKind.bits IntKind.u32)))) f=true→(f:Int) < b.D0 - 1):=by
 have lo:=hb.lo;have hi:=hb.hi;unfold maskV
 have:b.D0=2∨b.D0=3∨b.D0=4∨b.D0=5∨b.D0=6∨b.D0=7∨b.D0=8:=by omega
 rcases this with h | h | h | h | h | h | h <;> rw [h] <;> refine ⟨by decide,by decide,by decide,by decide,by decide⟩
theorem nbhg' (a:Int) {c:Int} (hc:0≤c∧c < 4294967296):0≤vb (bv a &&& bv c)∧vb (bv a &&& bv c)≤c:=by
 have h2:=vb_bv hc;unfold vb at *;rw [BitVec.toNat_and]
 have:=Nat.and_le_right (n:=(bv a).toNat) (m:=(bv c).toNat)
 omega
section
variable {b:Bldg} (hb:b.small) (hcode:b.code=0)
include hb in
theorem nbed' (a:Int):flV b (vb (bv a &&& bv (maskV b)))=true:=by
 obtain ⟨m0,m1,m2,_⟩:=nxa' hb;have h:=nbhg' a (c:=maskV b) (by omega)
 unfold flV;rw [ncd' (by omega) (by omega)]
 generalize vb (bv a &&& bv (maskV b))=n at h
 have:n.fdiv (2 ^ b.D0.toNat)=0:=by
  rw [Int.fdiv_eq_ediv_of_nonneg _ (by omega)]
  exact Int.ediv_eq_zero_of_lt h.1 (by omega)
 rw [this]; rfl
include hb hcode in
theorem n8h' (u d:Int):nhy' b (vb (bv (vb (bv u &&& bv (maskV b))) &&& bv (Int.fdiv (maskV b) ((2:Int) ^ (Min.min (Int.toNat (1:Int)) (IntKind.bits IntKind.u32))))),vb (bv (vb (bv d &&& bv (maskV b))) &&& ~~~ bv 1))=true:=by
 obtain ⟨_,_,_,m3,m4⟩:=nxa' hb;unfold nhy';rw [nm1' (nh9' _ _)];intro f hf D hD;rw [nbi' _ _ hf,nsu' hb hcode hf hD];rcases hD with rfl | rfl
 ·cases hq:bitC (vb (bv (vb (bv u &&& bv (maskV b))) &&& bv (Int.fdiv (maskV b) ((2:Int) ^ (Min.min (Int.toNat (1:Int)) (IntKind.bits IntKind.u32))))),vb (bv (vb (bv d &&& bv (maskV b))) &&& ~~~ bv 1)) f 1 with
  | false=>rfl
  | true=>
   have h1:bitF (vb (bv (vb (bv u &&& bv (maskV b))) &&& bv (Int.fdiv (maskV b) ((2:Int) ^ (Min.min (Int.toNat (1:Int)) (IntKind.bits IntKind.u32)))))) f=true:=hq;rw [nqt',BitVec.getLsbD_and,Bool.and_eq_true_iff] at h1;have h2:=m4 f hf h1.2
   have h5:nk' b (f:Int) 1=true:=by
    unfold nk' callB;rw [hcode,show inR 0 (b.D0 - 2) (f:Int)=true from ns'.2 ⟨by omega,by omega⟩]; rfl
   rw [h5]; rfl
 ·cases hq:bitC (vb (bv (vb (bv u &&& bv (maskV b))) &&& bv (Int.fdiv (maskV b) ((2:Int) ^ (Min.min (Int.toNat (1:Int)) (IntKind.bits IntKind.u32))))),vb (bv (vb (bv d &&& bv (maskV b))) &&& ~~~ bv 1)) f 2 with
  | false=>rfl
  | true=>
   have h1:bitF (vb (bv (vb (bv d &&& bv (maskV b))) &&& ~~~ bv 1)) f=true:=hq;rw [nqt',BitVec.getLsbD_and,bv_vb,BitVec.getLsbD_and,BitVec.getLsbD_not,Bool.and_eq_true_iff,Bool.and_eq_true_iff,Bool.and_eq_true_iff] at h1;have h2:=m3 f hf h1.1.2;have h3:f ≠ 0:=fun h=>by subst h; exact absurd h1.2.2 (by decide)
   have h5:nk' b (f:Int) 2=true:=by
    unfold nk' callB;rw [hcode,show inR 1 (b.D0 - 1) (f:Int)=true from ns'.2 ⟨by omega,by omega⟩]; rfl
   rw [h5]; rfl
end
theorem nm8' {α:Type} {l:List α} {i j:Nat} (d x:α) (h:i ≠ j):(l.set i x).getD j d=l.getD j d:=by
 rw [List.getD_eq_getElem?_getD,List.getElem?_set_ne h,← List.getD_eq_getElem?_getD]
section
variable {b:Bldg} (hb:b.small) (hcode:b.code=0)
include hb hcode
theorem nbdn' (u d kd car:Int) {cs:List CarInput} (hcs:cs.length=b.A0.length):Sat (nk4' b.D0 b.E0 b.I0 b.Q0 b.J0 b.K0 b.P0 b.A0 u d kd car cs) fun y=>∃ x:Inp,y=(((),()),(x.tup,()))∧isInV b x=true:=by
 have hc:=nn' hcode;have lo:=hb.lo;have hi:=hb.hi;have hw:=n8h' hb hcode u d;unfold nk4';refine Sat.bifT (nje' _) ?_;have z8:IntKind.u64.wrap (b.A0.length:Int)=(b.A0.length:Int):=ncd' (by omega) (by omega)
 refine Sat.bifT (by show (IntKind.u64.wrap (b.A0.length:Int) != 0)=true; rw [z8]; exact bne_t (by omega)) ?_
 have u64n:∀ n:Int,0≤IntKind.u64.wrap n∧IntKind.u64.wrap n < 18446744073709551616:=fun n=>by
  simp only [IntKind.wrap,IntKind.signed,IntKind.bits];simp;exact ⟨Int.emod_nonneg _ (by decide),Int.emod_lt_of_pos _ (by decide)⟩
 have md:∀ (n:Int) (m:Int),0 < m→m≤9→0≤IntKind.i64.wrap (Int.tmod (IntKind.u64.wrap n) m)∧IntKind.i64.wrap (Int.tmod (IntKind.u64.wrap n) m) < m:=fun n m h0 h1=>by
  have h2:=(u64n n).1;rw [Int.tmod_eq_emod_of_nonneg h2];have h3:=Int.emod_nonneg (IntKind.u64.wrap n) (show m ≠ 0 by omega)
  have h4:=Int.emod_lt_of_pos (IntKind.u64.wrap n) h0;rw [nc' (by omega) (by omega)]
  exact ⟨h3,h4⟩
 refine Sat.bindS (Q:=fun y=>∃ (k c:Int),y=(((),(),(),maskV b,()),(b.tup,(vb (bv (vb (bv u &&& bv (maskV b))) &&& bv (Int.fdiv (maskV b) ((2:Int) ^ (Min.min (Int.toNat (1:Int)) (IntKind.bits IntKind.u32))))),vb (bv (vb (bv d &&& bv (maskV b))) &&& ~~~ bv 1),k,c,cs,()),((0:Int),(0:Int),(0:Int),(0:Int),([]:List CarInput),()),()))∧inR 0 8 k=true∧inR 0 ((b.A0.length:Int) - 1) c=true∧(k==0&&c != 0)=false) ?_ fun y hy=>?_
 ·have hk:=md kd 9 (by decide) (by decide)
  have hkr:inR 0 8 (IntKind.i64.wrap (Int.tmod (IntKind.u64.wrap kd) 9))=true:=ns'.2 ⟨hk.1,by omega⟩
  simp only [w_and,nkk'];refine Sat.bif (fun h=>Sat.ret ⟨_,_,rfl,hkr,ns'.2 ⟨Int.le_refl 0,by omega⟩,by rw [h]; rfl⟩) fun h=>Sat.ret ⟨_,_,rfl,hkr,?_,by rw [h]; rfl⟩
  have hcr:=md car (b.A0.length:Int) (by omega) (by omega)
  rw [z8];exact ns'.2 ⟨hcr.1,by omega⟩
 obtain ⟨k,c,rfl,hk,hcr,hkc⟩:=hy
 have hcap:((decide ((0:Int)≤(b.A0.length:Int))&&decide ((b.A0.length:Int)≤(b.A0.length:Int)))&&decide ((b.A0.length:Int)≤2147483648))=true:=by
  simp only [decide_eq_true (show (0:Int)≤(b.A0.length:Int) by omega),decide_eq_true (Int.le_refl (b.A0.length:Int)),decide_eq_true (show (b.A0.length:Int)≤2147483648 by omega),Bool.and_self]
 refine Sat.bifT hcap ?_;generalize hP:(vb (bv (vb (bv u &&& bv (maskV b))) &&& bv (Int.fdiv (maskV b) ((2:Int) ^ (Min.min (Int.toNat (1:Int)) (IntKind.bits IntKind.u32))))),vb (bv (vb (bv d &&& bv (maskV b))) &&& ~~~ bv 1))=P at hw;have hP1:=congrArg Prod.fst hP;have hP2:=congrArg Prod.snd hP;simp only at hP1 hP2;rw [hP1,hP2];refine Sat.bindS (Q:=fun y=>∃ l:List CarInput,y=(((),(),l,()),((P.1,P.2,k,c,cs,()),((0:Int),(0:Int),(0:Int),(0:Int),([]:List CarInput),()),()))∧l.length=b.A0.length∧∀ j,j < b.A0.length→nl5' b (l.getD j noCI)=true) ?_ fun y hy=>?_
 ·refine Sat.loop (fun (kk:Nat) z=>∃ (l:List CarInput) (i:Nat),z=(((),(),(),maskV b,l,(i:Int),()),(b.tup,(P.1,P.2,k,c,cs,()),((0:Int),(0:Int),(0:Int),(0:Int),([]:List CarInput),()),()))∧l.length=b.A0.length∧(∀ j,j < i→nl5' b (l.getD j noCI)=true)∧i + kk=b.A0.length) (fun kk z hz=>?_) b.A0.length ⟨_,0,rfl,?_,fun j hj=>absurd hj (Nat.not_lt_zero j),Nat.zero_add _⟩ (by omega)
  ·obtain ⟨l,i,rfl,hl,hj,hkk⟩:=hz
   unfold nrx';refine Sat.bif (fun gg=>?_) fun gg=>Sat.ret ⟨l,rfl,hl,?_⟩
   ·have gg:(i:Int) < (l.length:Int):=of_decide_eq_true gg
    have hin:i < l.length:=by omega
    have w:=wrapN (n:=i) (by omega)
    have z7:IntKind.u64.wrap b.D0=b.D0:=ncd' (by omega) (by omega)
    refine Sat.bifT (na' (show (0:Int)≤(i:Int) by omega) gg) ?_
    refine Sat.bifT (by show (IntKind.u64.wrap b.D0 != 0)=true; rw [z7]; exact bne_t (by omega)) ?_
    simp only [w_and,Int.toNat_natCast];refine Sat.ret ⟨kk - 1,by omega,_,i + 1,by first | (rw [← w]; rfl) | rw [← w],?_,?_,by omega⟩
    ·simp only [List.length_set]; exact hl
    ·intro j hjj
     by_cases he:j=i
     ·subst he
      rw [ne3' _ _ (by simp only [List.length_set]; exact hin),ne3' _ _ (by simp only [List.length_set]; exact hin),ne3' _ _ (by simp only [List.length_set]; exact hin),ne3' _ _ hin]
      unfold nl5';have f1:=md (l.getD j (CarInput.mk 0 false false false false 0 false 0 false 0 0)).R1 b.D0 (by omega) (by omega)
      have f2:=md (l.getD j (CarInput.mk 0 false false false false 0 false 0 false 0 0)).Y1 3 (by decide) (by decide)
      simp only [nbed' hb,Bool.true_and];rw [show IntKind.u64.wrap b.tup.1=b.D0 from z7,ns'.2 ⟨f1.1,show _≤b.D0 - 1 by omega⟩,ns'.2 ⟨f2.1,show _≤(2:Int) by omega⟩]
      rfl
     ·rw [nm8' _ _ (Ne.symm he),nm8' _ _ (Ne.symm he),nm8' _ _ (Ne.symm he),nm8' _ _ (Ne.symm he)]
      exact hj j (by omega)
   ·have gg:¬ (i:Int) < (l.length:Int):=of_decide_eq_false gg
    intro j hjj;exact hj j (by omega)
  ·show (copyR (List.replicate (Int.toNat (b.A0.length:Int)) (CarInput.mk 0 false false false false 0 false 0 false 0 0)) cs).length=b.A0.length
   unfold copyR;simp only [List.length_append,List.length_take,List.length_drop,List.length_replicate,Int.toNat_natCast];omega
 obtain ⟨l,rfl,hl,hall⟩:=hy;refine Sat.ret ⟨⟨P,k,c,l⟩,rfl,?_⟩;unfold isInV;rw [hw,hk,hcr,hkc,show ((l.length:Int)==(b.A0.length:Int))=true by rw [hl]; exact beq_self_eq_true _]
 simp only [Bool.true_and,Bool.not_false];refine List.all_eq_true.2 fun e he=>?_
 obtain ⟨j,hj,rfl⟩:=List.getElem_of_mem he
 have:=hall j (by omega)
 rwa [List.getD_eq_getElem?_getD,List.getElem?_eq_getElem hj] at this
end
theorem quo12:∀ k:Fin 16,(arF .quo .f64 (nearF .f64 ((k.val:Nat):Int)) 4622945017495814144).isSome=true:=by decide
theorem quo_t {n:Int} (h:0≤n∧n < 256):Sat (arF .quo .f64 (nearF .f64 (Int.tmod n 16)) 4622945017495814144) fun _=>True:=by
 obtain ⟨k,rfl⟩:=Int.eq_ofNat_of_zero_le h.1;have e:Int.tmod ((k:Nat):Int) 16=((k % 16:Nat):Int):=ng1' k 16;have h2:=quo12 ⟨k % 16,Nat.mod_lt _ (by decide)⟩
 rw [e];obtain ⟨a,ha⟩:=Option.isSome_iff_exists.1 h2;exact ⟨a,ha,trivial⟩
theorem n7b' {l:List Int} (h:∀ e ∈ l,u8r e) (n:Nat):u8r (l.getD n 0):=by
 by_cases hn:n < l.length
 ·exact nbdw' h hn
 ·rw [List.getD_eq_getElem?_getD,List.getElem?_eq_none (by omega)]; exact u8r0
section
variable {b:Bldg} (hb:b.small) (hcode:b.code=0)
include hb hcode
theorem nbej' {x0 x1 x2 x3 x4 x5:Int} (h:∀ e ∈ [x0,x1,x2,x3,x4,x5],u8r e):Sat (nk1' b.D0 b.E0 b.I0 b.Q0 b.J0 b.K0 b.P0 b.A0 x0 x1 x2 x3 x4 x5) fun y=>∃ x:Inp,y=(((),()),(x.tup,()))∧isInV b x=true:=by
 have hc:=nn' hcode;unfold nk1';refine Sat.bindS (Q:=fun y=>∃ u d:Int,y=(((),(),(),(),()),(b.tup,(x0,x1,x2,x3,x4,x5,()),((0:Int),(0:Int),(0:Int),(0:Int),([]:List CarInput),()),(u,d,(0:Int),(0:Int),([]:List CarInput),()),()))) (Sat.bif (fun _=>Sat.ret ⟨_,_,rfl⟩) fun _=>Sat.ret ⟨_,_,rfl⟩) fun y hy=>?_
 obtain ⟨u,d,rfl⟩:=hy;refine Sat.bindS (Q:=fun y=>∃ k c:Int,y=(((),(),(),(),()),(b.tup,(x0,x1,x2,x3,x4,x5,()),((0:Int),(0:Int),(0:Int),(0:Int),([]:List CarInput),()),(u,d,k,c,([]:List CarInput),()),()))) (Sat.bif (fun _=>Sat.ret ⟨_,_,rfl⟩) fun _=>Sat.ret ⟨_,_,rfl⟩) fun y hy=>?_
 obtain ⟨k,c,rfl⟩:=hy;refine Sat.bindS (Q:=fun y=>∃ cs:List CarInput,y=(((),(),(),()),(b.tup,((0:Int),(0:Int),(0:Int),(0:Int),([]:List CarInput),()),(u,d,k,c,cs,()),()))∧cs.length=b.A0.length) ?_ fun y hy=>?_
 ·refine Sat.loop (fun (kk:Nat) z=>∃ (cs:List CarInput) (i:Nat),z=(((),(),(),(),(i:Int),()),(b.tup,(x0,x1,x2,x3,x4,x5,()),((0:Int),(0:Int),(0:Int),(0:Int),([]:List CarInput),()),(u,d,k,c,cs,()),()))∧cs.length=i∧i + kk=b.A0.length) (fun kk z hz=>?_) b.A0.length ⟨[],0,rfl,rfl,Nat.zero_add _⟩ (by omega)
  obtain ⟨cs,i,rfl,hcs,hkk⟩:=hz;unfold nr0';refine Sat.bif (fun gg=>?_) fun gg=>Sat.ret ⟨cs,rfl,?_⟩
  ·have gg:(i:Int) < (b.A0.length:Int):=of_decide_eq_true gg
   have w:=wrapN (n:=i) (by omega)
   have e3:Int.tmod (i:Int) 3=((i % 3:Nat):Int):=ng1' i 3;have e4:Int.tmod (i:Int) 4=((i % 4:Nat):Int):=ng1' i 4;have w3:IntKind.i64.wrap (3 + Int.tmod (i:Int) 3)=3 + ((i % 3:Nat):Int):=by rw [e3,nc' (by omega) (by omega)]
   have w4:IntKind.i64.wrap (2 + Int.tmod (i:Int) 4)=2 + ((i % 4:Nat):Int):=by rw [e4,nc' (by omega) (by omega)]
   refine Sat.bifT (na' (show 0≤IntKind.i64.wrap (3 + Int.tmod (i:Int) 3) by omega) (show IntKind.i64.wrap (3 + Int.tmod (i:Int) 3) < ((6:Nat):Int) by omega)) ?_
   refine Sat.bifT (na' (show 0≤IntKind.i64.wrap (2 + Int.tmod (i:Int) 4) by omega) (show IntKind.i64.wrap (2 + Int.tmod (i:Int) 4) < ((6:Nat):Int) by omega)) ?_
   refine Sat.bindS (quo_t (n7b' h _)) fun ld _=>Sat.bifT (nje' _) ?_
   refine Sat.bindS (Q:=fun y=>∃ (z:Int) (ci:CarInput),y=(((),(),(),(),(i:Int),z,(),()),(b.tup,(x0,x1,x2,x3,x4,x5,()),((0:Int),(0:Int),(0:Int),(0:Int),([]:List CarInput),()),(u,d,k,c,cs,()),(ci.Z0,ci.V1,ci.L1,ci.M1,ci.F1,ci.R1,ci.L2,ci.Y1,ci.M2,ci.N1,ci.H3,()),()))) ?_ fun y hy=>?_
   ·refine Sat.bif (fun _=>Sat.ret ⟨_,CarInput.mk _ _ _ _ _ _ _ _ _ _ _,rfl⟩) fun _=>Sat.ret ⟨_,CarInput.mk _ _ _ _ _ _ _ _ _ _ _,rfl⟩
   obtain ⟨z,ci,rfl⟩:=hy;refine Sat.bifT (nh' (show cs.length + 1≤_ by omega)) (Sat.ret ⟨kk - 1,by omega,cs++[CarInput.mk ci.Z0 ci.V1 ci.L1 ci.M1 ci.F1 (IntKind.i64.wrap (Int.tmod z 8)) (decide ((0:Int) < Int.tmod z 5)) (IntKind.i64.wrap (Int.tmod (IntKind.u8.wrap (Int.tdiv z 8)) 3)) (Int.tmod z 7==0) ci.N1 ci.H3],i + 1,by first | (rw [← w]; rfl) | rw [← w],by rw [List.length_append,hcs]; rfl,by omega⟩)
  ·have gg:¬ (i:Int) < (b.A0.length:Int):=of_decide_eq_false gg
   omega
 obtain ⟨cs,rfl,hcs⟩:=hy;refine Sat.bindS (nbdn' hb hcode u d k c hcs) fun y hy=>?_
 obtain ⟨x,rfl,hx⟩:=hy;exact Sat.ret ⟨x,rfl,hx⟩
theorem nbd3' {l:List Int} (h:∀ e ∈ l,u8r e) (_hl:l.length≤maxLen) {most:Nat} (hm:most≤1000):Sat (nf7' b.D0 b.E0 b.I0 b.Q0 b.J0 b.K0 b.P0 b.A0 l (most:Int)) fun y=>y.1.1.length≤most∧∀ s ∈ y.1.1,s.size≤1000000:=by
 have hc:=nn' hcode;have hmx:maxLen≤9223372036854775807:=by decide
 unfold nf7';refine Sat.bindS (Q:=fun y=>y.1.1.length≤most∧∀ s ∈ y.1.1,s.size≤1000000) ?_ fun y hy=>Sat.ret hy
 refine Sat.loop (fun (k:Nat) z=>∃ (out:List ByteArray) (i:Nat),z=((l,(most:Int),(),out,(i:Int),()),(b.tup,()))∧i≤out.length∧out.length≤most∧(∀ s ∈ out,s.size≤1000000)∧i + k=most) (fun k z hz=>?_) most ⟨[],0,rfl,Nat.le_refl 0,Nat.zero_le _,fun s hs=>(by cases hs),Nat.zero_add _⟩ (by omega)
 obtain ⟨out,i,rfl,h1,h2,h3,hk⟩:=hz;unfold nsp';have w6:IntKind.i64.wrap (6 * (i:Int))=6 * (i:Int):=nc' (by omega) (by omega)
 refine Sat.bif (fun g1=>Sat.bif (fun g2=>?_) fun _=>Sat.ret ⟨h2,h3⟩) fun _=>Sat.ret ⟨h2,h3⟩
 have g1:IntKind.i64.wrap (6 * (i:Int)) < (l.length:Int):=of_decide_eq_true g1;have g2:(out.length:Int) < (most:Int):=of_decide_eq_true g2
 refine Sat.bifT (by
  show (decide ((0:Int)≤IntKind.i64.wrap (6 * (i:Int)))&&decide (IntKind.i64.wrap (6 * (i:Int))≤(l.length:Int)))=true;rw [decide_eq_true (show (0:Int)≤IntKind.i64.wrap (6 * (i:Int)) by omega),decide_eq_true (show IntKind.i64.wrap (6 * (i:Int))≤(l.length:Int) by omega)]; rfl) ?_
 have hz1:∀ e ∈ List.drop (Int.toNat (IntKind.i64.wrap (6 * (i:Int)))) (List.take (List.length l) l),u8r e:=fun e he=>h e (by
  have:=List.mem_of_mem_drop he
  exact List.mem_of_mem_take this)
 generalize List.drop (Int.toNat (IntKind.i64.wrap (6 * (i:Int)))) (List.take (List.length l) l)=L at hz1
 dsimp only
 have pick:∀ n:Nat,u8r (bif Nat.blt n L.length then L.getD n 0 else 0):=fun n=>by
  cases Nat.blt n L.length with
  | true=>exact n7b' hz1 n
  | false=>exact u8r0
 have hall:∀ e ∈ [(bif Nat.blt 0 L.length then L.getD 0 0 else 0),(bif Nat.blt 1 L.length then L.getD 1 0 else 0),(bif Nat.blt 2 L.length then L.getD 2 0 else 0),(bif Nat.blt 3 L.length then L.getD 3 0 else 0),(bif Nat.blt 4 L.length then L.getD 4 0 else 0),(bif Nat.blt 5 L.length then L.getD 5 0 else 0)],u8r e:=fun e he=>by
  simp only [List.mem_cons,List.not_mem_nil,or_false] at he;rcases he with rfl | rfl | rfl | rfl | rfl | rfl <;> exact pick _
 have h5:=pick 5;have hin:=nbej' hb hcode hall;generalize (bif Nat.blt 0 L.length then L.getD 0 0 else 0)=q0 at hin;generalize (bif Nat.blt 1 L.length then L.getD 1 0 else 0)=q1 at hin;generalize (bif Nat.blt 2 L.length then L.getD 2 0 else 0)=q2 at hin;generalize (bif Nat.blt 3 L.length then L.getD 3 0 else 0)=q3 at hin;generalize (bif Nat.blt 4 L.length then L.getD 4 0 else 0)=q4 at hin;generalize (bif Nat.blt 5 L.length then L.getD 5 0 else 0)=q5 at hin h5;refine Sat.bindS hin fun y hy=>?_
 obtain ⟨x,rfl,hx⟩:=hy
 have hxl:x.cars.length=b.A0.length:=by
  unfold isInV at hx;simp only [Bool.and_eq_true,beq_iff_eq] at hx;omega
 have hin2:=n0p' hb hcode x (by omega)
 rw [hx,cond_true] at hin2;refine Sat.bindE hin2 ?_;have hsz:=nbd8' b x;generalize inV b x=s at hsz
 have h5':0≤Int.tmod q5 4∧Int.tmod q5 4≤3:=by
  have h50:0≤q5:=h5.1;rw [Int.tmod_eq_emod_of_nonneg h50];omega
 have w5:IntKind.i64.wrap (Int.tmod q5 4)=Int.tmod q5 4:=nc' (by omega) (by omega)
 refine Sat.bindS (Q:=fun y=>∃ o:List ByteArray,y=((l,(most:Int),(),o,(i:Int),()),(b.tup,()))∧i + 1≤o.length∧o.length≤most∧∀ s ∈ o,s.size≤1000000) ?_ fun y hy=>?_
 ·refine Sat.loop (fun (kk:Nat) z=>∃ (o:List ByteArray) (s:ByteArray) (j:Nat),z=((l,(most:Int),(),o,(i:Int),(),s,(j:Int),()),(b.tup,(q0,q1,q2,q3,q4,q5,()),()))∧o.length=out.length + j∧o.length≤most∧(∀ s ∈ o,s.size≤1000000)∧1≤s.size∧s.size≤1000∧j + kk=4) (fun kk z hz=>?_) 4 ⟨out,s,0,rfl,rfl,h2,h3,by omega,by omega,rfl⟩ (by decide)
  obtain ⟨o,s,j,rfl,o1,o2,o3,s1,s2,hkk⟩:=hz;unfold nsf';have w:=wrapN (n:=j) (by omega)
  refine Sat.bif (fun c1=>Sat.bif (fun c2=>?_) fun c2=>Sat.ret ⟨o,rfl,?_,o2,o3⟩) fun c1=>Sat.ret ⟨o,rfl,?_,o2,o3⟩
  ·have c1:(j:Int)≤IntKind.i64.wrap (Int.tmod q5 4):=of_decide_eq_true c1
   have c2:(o.length:Int) < (most:Int):=of_decide_eq_true c2;refine Sat.bif (fun _=>?_) fun _=>?_
   ·have ws:IntKind.i64.wrap ((s.size:Int) - 1)=(s.size:Int) - 1:=nc' (by omega) (by omega)
    refine Sat.bifT (by
     show (decide ((0:Int)≤IntKind.i64.wrap ((s.size:Int) - 1))&&decide (IntKind.i64.wrap ((s.size:Int) - 1)≤(s.size:Int)))=true;rw [decide_eq_true (show (0:Int)≤IntKind.i64.wrap ((s.size:Int) - 1) by omega),decide_eq_true (show IntKind.i64.wrap ((s.size:Int) - 1)≤(s.size:Int) by omega)]; rfl) ?_
    have ex:(s.extract 0 (Int.toNat (IntKind.i64.wrap ((s.size:Int) - 1)))).size=s.size - 1:=by
     rw [ByteArray.size_extract,ws]; omega
    have sz:(s.extract 0 (Int.toNat (IntKind.i64.wrap ((s.size:Int) - 1)))++ByteArray.mk (Array.mk [63])).size=s.size:=by
     rw [ByteArray.size_append,ex]; show s.size - 1 + 1=_; omega
    refine Sat.bifT (nh' (by show (s.extract 0 (Int.toNat (IntKind.i64.wrap ((s.size:Int) - 1)))).size + 1≤_; omega)) ?_
    refine Sat.bifT (nh' (show o.length + 1≤_ by omega)) (Sat.ret ⟨kk - 1,by omega,o++[s.extract 0 (Int.toNat (IntKind.i64.wrap ((s.size:Int) - 1)))++ByteArray.mk (Array.mk [63])],s.extract 0 (Int.toNat (IntKind.i64.wrap ((s.size:Int) - 1)))++ByteArray.mk (Array.mk [63]),j + 1,by first | (rw [← w]; rfl) | rw [← w],by rw [List.length_append,o1]; rfl,by rw [List.length_append]; show o.length + 1≤_; omega,fun u hu=>?_,by omega,by omega,by omega⟩)
    rcases List.mem_append.1 hu with hu | hu
    ·exact o3 u hu
    ·rw [List.mem_singleton] at hu; subst hu; omega
   ·refine Sat.bifT (nh' (show o.length + 1≤_ by omega)) (Sat.ret ⟨kk - 1,by omega,o++[s],s,j + 1,by first | (rw [← w]; rfl) | rw [← w],by rw [List.length_append,o1]; rfl,by rw [List.length_append]; show o.length + 1≤_; omega,fun u hu=>?_,s1,s2,by omega⟩)
    rcases List.mem_append.1 hu with hu | hu
    ·exact o3 u hu
    ·rw [List.mem_singleton] at hu; subst hu; omega
  ·have c2:¬ (o.length:Int) < (most:Int):=of_decide_eq_false c2
   omega
  ·have c1:¬ (j:Int)≤IntKind.i64.wrap (Int.tmod q5 4):=of_decide_eq_false c1
   omega
 obtain ⟨o,rfl,o1,o2,o3⟩:=hy;have w:=wrapN (n:=i) (by omega)
 exact Sat.ret ⟨k - 1,by omega,o,i + 1,by first | (rw [← w]; rfl) | rw [← w],o1,o2,o3,by omega⟩
end
theorem ntf' {a c:Int×Int}:nfn' a c=true↔a=c:=by
 unfold nfn';simp only [Bool.and_eq_true,beq_iff_eq,and_true];exact ⟨fun h=>Prod.ext h.1 h.2,fun h=>by subst h; exact ⟨rfl,rfl⟩⟩
theorem nbcg' (s l t:Int×Int):isZ (nr' s (bothC l t))=(isZ (nr' s l)&&isZ (nr' s t)):=by
 rw [Bool.eq_iff_iff,Bool.and_eq_true,nm1' (nh9' _ _),nm1' (nh9' _ _),nm1' (nh9' _ _)];constructor
 ·intro h
  refine ⟨fun f hf d hd=>?_,fun f hf d hd=>?_⟩
  ·have:=h f hf d hd
   rw [nbi' _ _ hf,nel'] at this;rw [nbi' _ _ hf]
   revert this
   cases bitC s f d <;> cases bitC l f d <;> cases bitC t f d <;> decide
  ·have:=h f hf d hd
   rw [nbi' _ _ hf,nel'] at this;rw [nbi' _ _ hf]
   revert this
   cases bitC s f d <;> cases bitC l f d <;> cases bitC t f d <;> decide
 ·rintro ⟨h1,h2⟩ f hf d hd
  have e1:=h1 f hf d hd;have e2:=h2 f hf d hd;rw [nbi' _ _ hf] at e1 e2;rw [nbi' _ _ hf,nel']
  revert e1 e2
  cases bitC s f d <;> cases bitC l f d <;> cases bitC t f d <;> decide
theorem n84' {s l x:Int×Int} (hs:u32C s) (hl:isZ (nr' s l)=true):nfn' (nr' l x) s=(isZ (nr' (nr' l x) s)&&isZ (bothC l (bothC x s))):=by
 have h0:=(nm1' (nh9' _ _)).1 hl;rw [Bool.eq_iff_iff,Bool.and_eq_true,ntf',nm1' (nh9' _ _),nm1' (ns2' _ _)];constructor
 ·intro h
  refine ⟨fun f hf d hd=>?_,fun f hf d hd=>?_⟩
  ·rw [nbi' _ _ hf,h]
   cases bitC s f d <;> rfl
  ·rw [nel',nel',← h,nbi' _ _ hf]
   cases bitC l f d <;> cases bitC x f d <;> rfl
 ·rintro ⟨h1,h2⟩
  refine nu0' (nh9' _ _) hs fun f hf d hd=>?_
  have e0:=h0 f hf d hd;have e1:=h1 f hf d hd;have e2:=h2 f hf d hd;rw [nbi' _ _ hf] at e0;rw [nbi' _ _ hf,nbi' _ _ hf] at e1;rw [nel',nel'] at e2;rw [nbi' _ _ hf]
  revert e0 e1 e2
  cases bitC s f d <;> cases bitC l f d <;> cases bitC x f d <;> decide
theorem nbet' {xs ps:List CarOutput}:(xs.zip ps).map (·.1)=xs.take ps.length:=by
 induction xs generalizing ps with
 | nil=>simp
 | cons a t ih=>
  cases ps with
  | nil=>simp
  | cons p q=>simp only [List.zip_cons_cons,List.map_cons,List.length_cons,List.take_succ_cons]; rw [ih]
theorem nbdt' {xs ps:List CarOutput}:(xs.take ps.length).zip ps=xs.zip ps:=by
 induction xs generalizing ps with
 | nil=>simp
 | cons a t ih=>
  cases ps with
  | nil=>simp
  | cons p q=>simp only [List.length_cons,List.take_succ_cons,List.zip_cons_cons]; rw [ih]
theorem nrv' (b:Bldg) {p x:Outputs} (hp:p.A0.length≤1000) (hx:x.A0.length≤1000) (hs:u32C (servC x)):nc4' b.D0 b.E0 b.I0 b.Q0 b.J0 b.K0 b.P0 b.A0 p.I1 p.A1 p.B1 p.X0 p.D3 p.K0 p.C2 p.A0 x.I1 x.A1 x.B1 x.X0 x.D3 x.K0 x.C2 x.A0=some ((seenP b.A0.length p x,()),()):=by
 have hph:∃ ph:Bool,ph=!decide (p.A0.length=b.A0.length∧x.A0.length=b.A0.length):=⟨_,rfl⟩;obtain ⟨ph,hph⟩:=hph;have hl:=nbeb' hx hp ph;rw [n4l',nbet'] at hl;unfold nc4';refine bindI (a:=(((),(),(),false,false,ph,(0:Int),()),(outT p,outT x,((0:Int),(0:Int),()),()))) ?_ ?_
 ·rw [hph]
  have hq:∀ a c:Nat,((a:Int) != (c:Int))=!decide (a=c):=fun a c=>by
   by_cases h:a=c
   ·subst h; simp
   ·rw [bne_t (show ¬ (a:Int)=(c:Int) by omega),decide_eq_false h]; rfl
  rw [hq,hq];by_cases n1:p.A0.length=b.A0.length
  ·by_cases n2:x.A0.length=b.A0.length
   ·rw [decide_eq_true n1,decide_eq_true n2,decide_eq_true (show p.A0.length=b.A0.length∧x.A0.length=b.A0.length from ⟨n1,n2⟩)]; rfl
   ·rw [decide_eq_true n1,decide_eq_false n2,decide_eq_false (show ¬ (p.A0.length=b.A0.length∧x.A0.length=b.A0.length) from fun h=>n2 h.2)]; rfl
  ·rw [decide_eq_false n1,decide_eq_false (show ¬ (p.A0.length=b.A0.length∧x.A0.length=b.A0.length) from fun h=>n1 h.1)]; rfl
 refine bindI hl ?_;unfold seenP;rw [nbdt',← hph];have hlit:∀ n2:x.A0.length=b.A0.length,p.A0.length=b.A0.length→x.A0.take p.A0.length=x.A0:=fun n2 n1=>by rw [List.take_of_length_le (by omega)]
 generalize hxs:x.A0.take p.A0.length=xs at hlit ⊢;cases twL xs (0,0) with
 | true=>rfl
 | false=>
 simp only [cond_false,Bool.false_or];refine bindI (nik' (lampC p) (lampC x)) ?_;show (bif !xs.all safeV then _ else bif !xs.all ndr' then _ else bif (ph||!(x.A0.zip p.A0).all edgO) then _ else _)=_
 cases xs.all safeV with
 | false=>rfl
 | true=>
 rw [Bool.not_true,cond_false,cond_false];cases xs.all ndr' with
 | false=>rfl
 | true=>
 rw [Bool.not_true,cond_false,cond_false,Bool.or_comm ph];cases (x.A0.zip p.A0).all edgO with
 | false=>rfl
 | true=>
 rw [Bool.not_true,Bool.false_or];cases hv:ph with
 | true=>rfl
 | false=>
 rw [hv] at hph
 have hn:p.A0.length=b.A0.length∧x.A0.length=b.A0.length:=by
  have:decide (p.A0.length=b.A0.length∧x.A0.length=b.A0.length)=true:=by
   cases h:decide (p.A0.length=b.A0.length∧x.A0.length=b.A0.length) with
   | true=>rfl
   | false=>rw [h] at hph; cases hph
  exact of_decide_eq_true this
 rw [hlit hn.2 hn.1] at hxs ⊢;rw [cond_false,cond_false];refine bindI (njc' (lampC p) (litL x.A0 (0,0))) ?_;refine bindI (nik' (servC x) (bothC (lampC p) (litL x.A0 (0,0)))) ?_;show (bif !isZ (nr' (servC x) (bothC (lampC p) (litL x.A0 (0,0)))) then _ else _)=_;rw [nbcg',Bool.not_and];cases hz1:isZ (nr' (servC x) (lampC p)) with
 | false=>rfl
 | true=>
 cases isZ (nr' (servC x) (litL x.A0 (0,0))) with
 | false=>rfl
 | true=>
 rw [Bool.not_true,Bool.false_or,cond_false,cond_false];show (bif !nfn' (nr' (lampC p) (lampC x)) (servC x) then _ else _)=_;rw [n84' hs hz1,Bool.not_and];cases isZ (nr' (nr' (lampC p) (lampC x)) (servC x)) with
 | false=>rfl
 | true=>
 cases isZ (bothC (lampC p) (bothC (lampC x) (servC x))) with
 | false=>rfl
 | true=>
 rw [Bool.not_true,Bool.false_or,cond_false,cond_false];have hsym:nfn' (lampC p) (lampC x)=nfn' (lampC x) (lampC p):=by rw [Bool.eq_iff_iff,ntf',ntf']; exact eq_comm
 cases hb:x.D3 with
 | false=>
  refine bindI (a:=(((trN x.A0 0),false,()),())) ?_ ?_
  ·show (bif x.D3 then _ else _)=_
   rw [hb]; rfl
  ·show (bif decide ((1:Int) < trN x.A0 0) then _ else _)=_
   rw [Bool.false_and,cond_false];cases decide ((1:Int) < trN x.A0 0) <;> rfl
 | true=>
  refine bindI (a:=(((trN x.A0 0),(!nfn' (lampC x) (lampC p)||!isZ (servC x)),()),())) ?_ ?_
  ·show (bif x.D3 then bif !nfn' (lampC p) (lampC x) then _ else _ else _)=_
   rw [hb,cond_true,hsym];cases nfn' (lampC x) (lampC p) <;> rfl
  ·rw [Bool.true_and]
   show (bif (!nfn' (lampC x) (lampC p)||!isZ (servC x)) then _ else _)=_
   cases (!nfn' (lampC x) (lampC p)||!isZ (servC x)) with
   | true=>rfl
   | false=>
    rw [cond_false,cond_false];show (bif decide ((1:Int) < trN x.A0 0) then _ else _)=_;cases decide ((1:Int) < trN x.A0 0) <;> rfl
def noO:Outputs:=Outputs.mk 0 0 0 0 false false 0 []
section
variable (b:Bldg) {l:List Outputs} (hl:l.length≤100000) (hc:∀ o ∈ l,o.A0.length≤1000) {p:Outputs} (hp:p.A0.length≤1000)
include hl hc hp
end
def n32' (n:Nat):Outputs:=Outputs.mk 0 0 0 0 false false 0 (List.replicate n (CarOutput.mk 0 0 false 0 0 false 0 0 false))
theorem nzd' (b:Bldg) (hc:b.A0.length≤1000):ncb' b.D0 b.E0 b.I0 b.Q0 b.J0 b.K0 b.P0 b.A0=some (((),()),(outT (n32' b.A0.length),())):=by
 unfold ncb'
 have hcap:((decide ((0:Int)≤(b.A0.length:Int))&&decide ((b.A0.length:Int)≤(b.A0.length:Int)))&&decide ((b.A0.length:Int)≤2147483648))=true:=by
  simp only [decide_eq_true (show (0:Int)≤(b.A0.length:Int) by omega),decide_eq_true (Int.le_refl (b.A0.length:Int)),decide_eq_true (show (b.A0.length:Int)≤2147483648 by omega),Bool.and_self]
 show (bif ((decide ((0:Int)≤(b.A0.length:Int))&&decide ((b.A0.length:Int)≤(b.A0.length:Int)))&&decide ((b.A0.length:Int)≤2147483648)) then _ else _)=_;rw [hcap]; rfl
theorem n25' (b:Bldg) (hc:b.A0.length≤1000):njn' b.D0 b.E0 b.I0 b.Q0 b.J0 b.K0 b.P0 b.A0=some (((),()),(outT (n32' b.A0.length),())):=by
 unfold njn'
 have hcap:((decide ((0:Int)≤(b.A0.length:Int))&&decide ((b.A0.length:Int)≤(b.A0.length:Int)))&&decide ((b.A0.length:Int)≤2147483648))=true:=by
  simp only [decide_eq_true (show (0:Int)≤(b.A0.length:Int) by omega),decide_eq_true (Int.le_refl (b.A0.length:Int)),decide_eq_true (show (b.A0.length:Int)≤2147483648 by omega),Bool.and_self]
 show (bif ((decide ((0:Int)≤(b.A0.length:Int))&&decide ((b.A0.length:Int)≤(b.A0.length:Int)))&&decide ((b.A0.length:Int)≤2147483648)) then _ else _)=_;rw [hcap]; rfl
theorem nw4' (p:Outputs) (hp:p.A0.length≤1000):nff' p.I1 p.A1 p.B1 p.X0 p.D3 p.K0 p.C2 p.A0 p.I1 p.A1 p.B1 p.X0 p.D3 p.K0 p.C2 p.A0=some ((true,()),()):=by
 have hS:Sat (nff' p.I1 p.A1 p.B1 p.X0 p.D3 p.K0 p.C2 p.A0 p.I1 p.A1 p.B1 p.X0 p.D3 p.K0 p.C2 p.A0) fun y=>y=((true,()),()):=by
  unfold nff';simp only [beq_self_eq_true,bne_self_eq_false,Bool.and_self,Bool.not_true,cond_false]
  refine Sat.bindS (Q:=fun y=>match y with
   | .inl _=>True
   | .inr y=>False) ?_ fun y hy=>?_
  ·refine Sat.loop (fun (k:Nat) z=>∃ (i:Nat),z=(((),(),(i:Int),()),(outT p,outT p,()))∧i + k=p.A0.length) (fun k z hz=>?_) p.A0.length ⟨0,rfl,Nat.zero_add _⟩ (by omega)
   obtain ⟨i,rfl,hk⟩:=hz;unfold nq6';refine Sat.bif (fun gg=>?_) fun gg=>Sat.ret trivial
   have gg:(i:Int) < (p.A0.length:Int):=of_decide_eq_true gg;have w:=wrapN (n:=i) (by omega)
   have ib:inB (i:Int) p.A0.length=true:=na' (by omega) gg
   refine Sat.bifT ib (Sat.bifT ib ?_);simp only [beq_self_eq_true,Bool.and_self,Bool.not_true,cond_false];exact Sat.ret ⟨k - 1,by omega,i + 1,by first | (rw [← w]; rfl) | rw [← w],by omega⟩
  ·cases y with
   | inl y=>exact Sat.ret rfl
   | inr y=>exact hy.elim
 obtain ⟨y,h1,h2⟩:=hS;rw [h1,h2]
theorem nbds':ng8'=some ((true,()),()):=by decide +kernel
theorem n74' (fl ca:Nat):(arF .sub .f64 (nq' fl ca).K0 4589168020290535424).isSome=true∧(arF .sub .f64 (nq' fl ca).P0 4589168020290535424).isSome=true:=by
 have h:(arF .sub .f64 (nq' 2 1).K0 4589168020290535424).isSome=true∧(arF .sub .f64 (nq' 2 1).P0 4589168020290535424).isSome=true:=by decide +kernel
 exact h
theorem n5h' (fl ca n1 n2:Nat):(bld27 fl ca n1 n2).loads:=by
 obtain ⟨h1,h2⟩:=n74' fl ca;obtain ⟨a,ha⟩:=Option.isSome_iff_exists.1 h1;obtain ⟨c,hc⟩:=Option.isSome_iff_exists.1 h2;exact ⟨⟨a,ha,trivial⟩,⟨c,hc,trivial⟩⟩
theorem nbby' (b:Bldg) (m:Img) (s:Sto):(∀ x ∈ (nfl' b m s).1.A0,ucR x.N1)∧∀ x ∈ (nfl' b m s).1.S0,x.M0.length≤1000:=by
 unfold nfl';cases fitsV b m&&decide (s.ok b.I0) with
 | true=>
  refine ⟨fun x hx=>?_,fun x hx=>?_⟩
  ·rw [List.eq_of_mem_replicate (show x ∈ List.replicate b.A0.length ncp' from hx)]
   exact ⟨Int.le_refl 0,show (0:Int) < 4294967296 from by decide⟩
  ·rw [List.eq_of_mem_replicate (show x ∈ List.replicate b.A0.length nom' from hx)]
   exact Nat.zero_le _
 | false=>exact ⟨fun x hx=>(by cases hx),fun x hx=>(by cases hx)⟩
theorem nbdg' {b:Bldg} (hcode:b.code=0):MW b (nb3' b).1:=by
 unfold nb3';rw [hcode];have hf:=nbba' hcode Sto.no (by decide) 1048576
 suffices h:(∀ x ∈ (bootV b Sto.no 1048576).1.A0,ucR x.N1)∧∀ x ∈ (bootV b Sto.no 1048576).1.S0,x.M0.length≤1000 from ⟨hf,h.1,h.2⟩
 unfold bootV;generalize nbl' b Sto.no 1048576=w;cases w.2.2.2 != 0 with
 | true=>exact ⟨fun x hx=>(by cases hx),fun x hx=>(by cases hx)⟩
 | false=>
  simp only [cond_false];have h:=nbby' b w.2.1 w.1;generalize nfl' b w.2.1 w.1=f at h ⊢;cases f.2 != 0 with
  | true=>exact ⟨fun x hx=>(by cases hx),fun x hx=>(by cases hx)⟩
  | false=>exact h
theorem nbdv' {b:Bldg} (hb:b.small) (hcode:b.code=0) (hc3:b.A0.length≤3) (hld:b.loads) {l:List Int} (h:∀ e ∈ l,u8r e) (hl:l.length≤maxLen) {most:Nat} (hm:most≤1000):Sat (nf7' b.D0 b.E0 b.I0 b.Q0 b.J0 b.K0 b.P0 b.A0 l (most:Int)) fun y=>Sat (nkx' b.D0 b.E0 b.I0 b.Q0 b.J0 b.K0 b.P0 b.A0 (nb3' b).1.L0.F0 (nb3' b).1.L0.N0 (nb3' b).1.L0.H0 (nb3' b).1.L0.B0 (nb3' b).1.Y0.h0 (nb3' b).1.Y0.h1 (nb3' b).1.Y0.sel (nb3' b).1.C1 (nb3' b).1.S0 (nb3' b).1.A0 (nb3' b).1.A2 (nb3' b).1.J1 (nb3' b).1.B3 (nb3' b).1.I3 (nb3' b).1.Q2 (nb3' b).1.E2 y.1.1) fun z=>z.1.2.1.length≤1000∧∀ o ∈ z.1.2.1,OW b o:=by
 refine (nbd3' hb hcode h hl hm).mono fun y hy=>?_
 refine (nbas' hb hcode hc3 hld (nbdg' hcode) hy.2).mono fun z hz=>⟨?_,hz.2⟩
 have:=hz.1
 have:=hy.1
 omega
theorem nbft' {n:Nat}:(2≤fl15 n∧fl15 n≤6)∧1≤ca15 n∧ca15 n≤3:=by unfold fl15 ca15; omega
theorem nbc2' {b:Bldg} (hc:1≤b.A0.length∧b.A0.length≤8) {out:List Outputs} (hl:out.length≤1000) (ho:∀ o ∈ out,OW b o) (n0 n1 n2:Int):Sat (nee' (((),(),out,(1:Int),()),((n0,n1,n2,()),b.tup,()))) fun y=>match y with
  | .inl _=>True
  | .inr _=>False:=by
 refine Sat.loop (fun (k:Nat) z=>∃ (i:Nat),z=(((),(),out,(i:Int),()),((n0,n1,n2,()),b.tup,()))∧1≤i∧(i + k=out.length∨(out.length≤i∧k=0))) (fun k z hz=>?_) (out.length - 1) ⟨1,rfl,Nat.le_refl 1,by omega⟩ (by omega)
 obtain ⟨i,rfl,h1,hk⟩:=hz;unfold noz';refine Sat.bif (fun gg=>?_) fun gg=>Sat.ret trivial
 have gg:(i:Int) < (out.length:Int):=of_decide_eq_true gg;have w:=wrapN (n:=i) (by omega)
 have hin:i < out.length:=by omega
 have ib:inB (i:Int) out.length=true:=na' (by omega) gg
 have hO:=ho _ (n5' noO hin);have em:Int.tmod (i:Int) (b.A0.length:Int)=((i % b.A0.length:Nat):Int):=ng1' i b.A0.length;have hmod:i % b.A0.length < b.A0.length:=Nat.mod_lt _ (by omega)
 have hz2:([]++(out.getD i noO).A0).length=b.A0.length:=by rw [List.nil_append]; exact hO.2
 refine Sat.bifT ib (Sat.bifT ib (Sat.bifT (nh' (by show 0 + (out.getD i noO).A0.length≤_; rw [hO.2]; omega)) ?_))
 refine Sat.bifT (by show ((b.A0.length:Int) != 0)=true; exact bne_t (by omega)) ?_
 refine Sat.bifT (na' (by show 0≤Int.tmod (i:Int) (b.A0.length:Int); omega) (by show Int.tmod (i:Int) (b.A0.length:Int) < (([]++(out.getD i noO).A0).length:Int); omega)) ?_
 refine Sat.bindS (Q:=fun y=>∃ x:Outputs,y=(((),(),out,(i:Int),(),()),((n0,n1,n2,()),b.tup,outT x,()))∧x.A0.length≤1000∧u32C (servC x)) ?_ fun y hy=>?_
 ·have fin:∀ (v:CarOutput),(List.set ([]++(out.getD i noO).A0) (Int.toNat (Int.tmod (i:Int) (b.A0.length:Int))) v).length≤1000:=fun v=>by rw [List.length_set,hz2]; omega
  have fin2:([]++(out.getD i noO).A0).length≤1000:=by omega
  refine Sat.bif (fun _=>Sat.ret ⟨Outputs.mk _ _ _ _ _ _ _ _,rfl,fin _,hO.1⟩) fun _=>?_
  refine Sat.bif (fun _=>Sat.ret ⟨Outputs.mk _ _ _ _ _ _ _ _,rfl,fin _,hO.1⟩) fun _=>?_
  refine Sat.bif (fun _=>Sat.ret ⟨Outputs.mk _ _ _ _ _ _ _ _,rfl,fin _,hO.1⟩) fun _=>?_
  refine Sat.bif (fun _=>Sat.ret ⟨Outputs.mk _ _ _ _ _ _ _ _,rfl,fin _,hO.1⟩) fun _=>?_
  refine Sat.bif (fun _=>Sat.ret ⟨Outputs.mk _ _ _ _ _ _ _ _,rfl,fin _,hO.1⟩) fun _=>?_
  refine Sat.bif (fun _=>Sat.ret ⟨Outputs.mk (out.getD i noO).I1 (out.getD i noO).A1 (IntKind.u32.wrap (stk (out.getD i noO).B1 (1:Int) (BitVec.toNat ((BitVec.ofInt (IntKind.bits IntKind.u32) (out.getD i noO).B1) ^^^ (BitVec.ofInt (IntKind.bits IntKind.u32) (1:Int)))))) (out.getD i noO).X0 (out.getD i noO).D3 (out.getD i noO).K0 (out.getD i noO).C2 ([]++(out.getD i noO).A0),rfl,fin2,ucR_w _,hO.1.2⟩) fun _=>?_
  refine Sat.bif (fun _=>Sat.ret ⟨Outputs.mk (out.getD i noO).I1 (IntKind.u32.wrap (stk (out.getD i noO).A1 (2:Int) (BitVec.toNat ((BitVec.ofInt (IntKind.bits IntKind.u32) (out.getD i noO).A1) ^^^ (BitVec.ofInt (IntKind.bits IntKind.u32) (2:Int)))))) (out.getD i noO).B1 (out.getD i noO).X0 (out.getD i noO).D3 (out.getD i noO).K0 (out.getD i noO).C2 ([]++(out.getD i noO).A0),rfl,fin2,hO.1⟩) fun _=>?_
  refine Sat.bif (fun _=>Sat.ret ⟨Outputs.mk (out.getD i noO).I1 (out.getD i noO).A1 (out.getD i noO).B1 (out.getD i noO).X0 (!(out.getD i noO).D3) (out.getD i noO).K0 (out.getD i noO).C2 ([]++(out.getD i noO).A0),rfl,fin2,hO.1⟩) fun _=>?_
  refine Sat.bif (fun _=>?_) fun _=>Sat.ret ⟨Outputs.mk (out.getD i noO).I1 (out.getD i noO).A1 (out.getD i noO).B1 (out.getD i noO).X0 (out.getD i noO).D3 (out.getD i noO).K0 (out.getD i noO).C2 ([]++(out.getD i noO).A0),rfl,fin2,hO.1⟩
  refine Sat.bindR (Sat.bifT (decide_eq_true (show (1:Int)≤(([]++(out.getD i noO).A0).length:Int) by omega)) (Sat.ret ⟨Outputs.mk _ _ _ _ _ _ _ _,rfl,?_,hO.1⟩))
  show (List.drop 1 (List.take ([]++(out.getD i noO).A0).length ([]++(out.getD i noO).A0))).length≤1000;rw [List.length_drop,List.length_take];omega
 obtain ⟨x,rfl,hx,hsx⟩:=hy;have wm:IntKind.i64.wrap ((i:Int) - 1)=((i - 1:Nat):Int):=by rw [nc' (by omega) (by omega)]; omega
 have im:inB (IntKind.i64.wrap ((i:Int) - 1)) out.length=true:=by rw [wm]; exact na' (by omega) (by omega)
 have hP:=ho (out.getD (Int.toNat (IntKind.i64.wrap ((i:Int) - 1))) noO) (n5' _ (by rw [wm,Int.toNat_natCast]; omega))
 have hp:(out.getD (Int.toNat (IntKind.i64.wrap ((i:Int) - 1))) noO).A0.length≤1000:=by rw [hP.2]; omega
 refine Sat.bifT im (Sat.bindE (nqo' b hp hx) (Sat.bifT im (Sat.bindE (nrv' b hp hx hsx) ?_)));refine Sat.bifF (bne_self_eq_false _) (Sat.ret ⟨k - 1,by omega,i + 1,by first | (rw [← w]; rfl) | rw [← w],by omega,by omega⟩)
theorem n2d' (n_f0:Int) (n_f1:Int) (n_f2:Int) (l:List Int) (raw_f0_Lamps_Up:Int) (raw_f0_Lamps_Down:Int) (raw_f0_Served_Up:Int) (raw_f0_Served_Down:Int) (raw_f0_Bad:Bool) (raw_f0_Full:Bool) (raw_f0_Status:Int) (raw_f0_Cars:List CarOutput) (raw_f1_Lamps_Up:Int) (raw_f1_Lamps_Down:Int) (raw_f1_Served_Up:Int) (raw_f1_Served_Down:Int) (raw_f1_Bad:Bool) (raw_f1_Full:Bool) (raw_f1_Status:Int) (raw_f1_Cars:List CarOutput) (h_n_f0:0≤n_f0∧n_f0 < 256) (h_n_f1:0≤n_f1∧n_f1 < 256) (h_n_f2:0≤n_f2∧n_f2 < 256) (h_l:l.length≤maxLen∧∀ e ∈ l,(0≤e∧e < 256)) (_h_raw_f0_Lamps_Up:0≤raw_f0_Lamps_Up∧raw_f0_Lamps_Up < 4294967296) (_h_raw_f0_Lamps_Down:0≤raw_f0_Lamps_Down∧raw_f0_Lamps_Down < 4294967296) (_h_raw_f0_Served_Up:0≤raw_f0_Served_Up∧raw_f0_Served_Up < 4294967296) (_h_raw_f0_Served_Down:0≤raw_f0_Served_Down∧raw_f0_Served_Down < 4294967296) (_h_raw_f0_Status:-9223372036854775808≤raw_f0_Status∧raw_f0_Status < 9223372036854775808) (_h_raw_f0_Cars:raw_f0_Cars.length≤maxLen∧∀ e ∈ raw_f0_Cars,(0≤e.T0∧e.T0 < 4294967296)∧(0≤e.R0∧e.R0 < 4294967296)∧(0≤e.T1∧e.T1 < 4294967296)∧(0≤e.H1∧e.H1 < 4294967296)∧(-9223372036854775808≤e.D2∧e.D2 < 9223372036854775808)∧(-9223372036854775808≤e.W0∧e.W0 < 9223372036854775808)) (_h_raw_f1_Lamps_Up:0≤raw_f1_Lamps_Up∧raw_f1_Lamps_Up < 4294967296) (_h_raw_f1_Lamps_Down:0≤raw_f1_Lamps_Down∧raw_f1_Lamps_Down < 4294967296) (h_raw_f1_Served_Up:0≤raw_f1_Served_Up∧raw_f1_Served_Up < 4294967296) (h_raw_f1_Served_Down:0≤raw_f1_Served_Down∧raw_f1_Served_Down < 4294967296) (_h_raw_f1_Status:-9223372036854775808≤raw_f1_Status∧raw_f1_Status < 9223372036854775808) (_h_raw_f1_Cars:raw_f1_Cars.length≤maxLen∧∀ e ∈ raw_f1_Cars,(0≤e.T0∧e.T0 < 4294967296)∧(0≤e.R0∧e.R0 < 4294967296)∧(0≤e.T1∧e.T1 < 4294967296)∧(0≤e.H1∧e.H1 < 4294967296)∧(-9223372036854775808≤e.D2∧e.D2 < 9223372036854775808)∧(-9223372036854775808≤e.W0∧e.W0 < 9223372036854775808)):F_l30_AuditSees n_f0 n_f1 n_f2 l raw_f0_Lamps_Up raw_f0_Lamps_Down raw_f0_Served_Up raw_f0_Served_Down raw_f0_Bad raw_f0_Full raw_f0_Status raw_f0_Cars raw_f1_Lamps_Up raw_f1_Lamps_Down raw_f1_Served_Up raw_f1_Served_Down raw_f1_Bad raw_f1_Full raw_f1_Status raw_f1_Cars=some ((true,()),()):=by
 have hs:=nbds'
 have hS:Sat (F_l30_AuditSees n_f0 n_f1 n_f2 l raw_f0_Lamps_Up raw_f0_Lamps_Down raw_f0_Served_Up raw_f0_Served_Down raw_f0_Bad raw_f0_Full raw_f0_Status raw_f0_Cars raw_f1_Lamps_Up raw_f1_Lamps_Down raw_f1_Served_Up raw_f1_Served_Down raw_f1_Bad raw_f1_Full raw_f1_Status raw_f1_Cars) fun y=>y=((true,()),()):=by
  unfold F_l30_AuditSees;refine Sat.bindE rfl (Sat.bif (fun _=>Sat.bindE hs (Sat.ret rfl)) fun g0=>Sat.bindE rfl (Sat.bif (fun _=>Sat.bindE hs (Sat.ret rfl)) fun g1=>?_))
  rw [Bool.not_eq_false'] at g0 g1;have g0:(raw_f0_Cars.length:Int)≤12:=of_decide_eq_true g0;have g1:(raw_f1_Cars.length:Int)≤12:=of_decide_eq_true g1;obtain ⟨k0,rfl⟩:=Int.eq_ofNat_of_zero_le h_n_f0.1;obtain ⟨k1,rfl⟩:=Int.eq_ofNat_of_zero_le h_n_f1.1;obtain ⟨k2,rfl⟩:=Int.eq_ofNat_of_zero_le h_n_f2.1;refine Sat.bindE (nvt' (n0:=k0) (n1:=k1) (n2:=k2) (by omega) (by omega) (by omega)) ?_
  obtain ⟨hfl,hca⟩:=nbft' (n:=k0);have hfacts:=n5m' (n1:=k1) (n2:=k2) hfl hca (by omega) (by omega)
  have hld:=n5h' (fl15 k0) (ca15 k0) k1 k2;have hb:=hfacts.1;have hcode:=hfacts.2.1;have hcl:=hfacts.2.2.1;generalize bld27 (fl15 k0) (ca15 k0) k1 k2=b at hb hcode hcl hld;have hc:=nn' hcode;refine Sat.bindR (Sat.bindE (n3q' hb hcode) (Sat.bindR ?_));have hrun:=nbdv' hb hcode (by omega) hld (l:=l) (fun e he=>h_l.2 e he) h_l.1 (most:=40) (by omega)
  refine Sat.bindS hrun fun fr hfr=>Sat.bindS hfr fun y10 h10=>?_
  refine Sat.bindE (nqo' b (p:=Outputs.mk raw_f0_Lamps_Up raw_f0_Lamps_Down raw_f0_Served_Up raw_f0_Served_Down raw_f0_Bad raw_f0_Full raw_f0_Status raw_f0_Cars) (x:=Outputs.mk raw_f1_Lamps_Up raw_f1_Lamps_Down raw_f1_Served_Up raw_f1_Served_Down raw_f1_Bad raw_f1_Full raw_f1_Status raw_f1_Cars) (show raw_f0_Cars.length≤1000 by omega) (show raw_f1_Cars.length≤1000 by omega)) ?_
  refine Sat.bindE (nrv' b (p:=Outputs.mk raw_f0_Lamps_Up raw_f0_Lamps_Down raw_f0_Served_Up raw_f0_Served_Down raw_f0_Bad raw_f0_Full raw_f0_Status raw_f0_Cars) (x:=Outputs.mk raw_f1_Lamps_Up raw_f1_Lamps_Down raw_f1_Served_Up raw_f1_Served_Down raw_f1_Bad raw_f1_Full raw_f1_Status raw_f1_Cars) (show raw_f0_Cars.length≤1000 by omega) (show raw_f1_Cars.length≤1000 by omega) ⟨h_raw_f1_Served_Up,h_raw_f1_Served_Down⟩) ?_
  refine Sat.bifF (bne_self_eq_false _) ?_;refine Sat.bindE (nzd' b (by omega)) (Sat.bindE (n25' b (by omega)) ?_)
  refine Sat.bindE (nw4' (n32' b.A0.length) (by show (List.replicate _ _).length≤1000; rw [List.length_replicate]; omega)) (Sat.bifF rfl ?_)
  refine Sat.bindS (nbc2' hc h10.1 h10.2 _ _ _) fun y hy=>?_
  cases y with
  | inl y=>exact Sat.bindE hs (Sat.ret rfl)
  | inr y=>exact hy.elim
 obtain ⟨y,e1,e2⟩:=hS;rw [e1,e2]
end Go.Ovl
