/- Layer 26: which machines belong to a building: the reference's side. -/
import Derived.Test.YtbliagnmhfobmaaGreatOvB
import Derived.Test.YtbliagnmhfobmaaGreatOvC
import Derived.Test.YtbliagnmhfobmaaGreatOvA
namespace Go.Ovl
open Go Go.Ab
set_option maxRecDepth 100000
theorem nse' (n:Int) (x:Debounced):nhm' n x.Z0 x.V1 x.L1 x.M1 x.F1 x.U4 x.V4 x.X4 x.Y4 x.Z4 x.A5 x.B5 x.C5 x.D5 x.E5 x.R3 x.T3 x.U3 x.V3 x.X3 x.Y3 x.Z3 x.A4 x.B4 x.C4 x.D4 x.E4 x.F4 x.G4 x.H4 x.I4 x.J4 x.K4 x.L4 x.M4 x.N4 x.O4 x.P4 x.Q4 x.R4 x.S4=some ((conOK n x,()),()):=by
 have h:=ng' (nrf' (step:=fun x=>letI g:=x.2.1.2.2.2; letI l:=g.2.2; letI c:=l.2.2.2; letI m:=c.2.2; letI d:=m.2.2.2; letI h:=d.2.2; letI a:=h.2.2.2.2; letI f:=a.2.2.2.2; letI j:=f.2.2; letI b:=j.2.2.2.2; letI n:=b.2.2; letI e:=n.2.2.2; letI k:=e.2.2; ndy' x.1.1 x.1.2.2.1 x.2.1.1 x.2.1.2.1 x.2.1.2.2.1 g.1 g.2.1 l.1 l.2.1 l.2.2.1 c.1 c.2.1 m.1 m.2.1 m.2.2.1 d.1 d.2.1 h.1 h.2.1 h.2.2.1 h.2.2.2.1 a.1 a.2.1 a.2.2.1 a.2.2.2.1 f.1 f.2.1 j.1 j.2.1 j.2.2.1 j.2.2.2.1 b.1 b.2.1 n.1 n.2.1 n.2.2.1 e.1 e.2.1 k.1 k.2.1 k.2.2.1 k.2.2.2.1 k.2.2.2.2.1) 36 (fun i=>((n,(),(i:Int),()),((x.Z0,x.V1,x.L1,x.M1,x.F1,x.U4,x.V4,x.X4,x.Y4,x.Z4,x.A5,x.B5,x.C5,x.D5,x.E5,x.R3,x.T3,x.U3,x.V3,x.X3,x.Y3,x.Z3,x.A4,x.B4,x.C4,x.D4,x.E4,x.F4,x.G4,x.H4,x.I4,x.J4,x.K4,x.L4,x.M4,x.N4,x.O4,x.P4,x.Q4,x.R4,x.S4,()),()))) (cntP n x) (Sum.inl ((),())) (Sum.inr ((false,()),())) (fun i hi=>by
  show ndy' n (i:Int) x.Z0 x.V1 x.L1 x.M1 x.F1 x.U4 x.V4 x.X4 x.Y4 x.Z4 x.A5 x.B5 x.C5 x.D5 x.E5 x.R3 x.T3 x.U3 x.V3 x.X3 x.Y3 x.Z3 x.A4 x.B4 x.C4 x.D4 x.E4 x.F4 x.G4 x.H4 x.I4 x.J4 x.K4 x.L4 x.M4 x.N4 x.O4 x.P4 x.Q4 x.R4 x.S4=_;unfold ndy';simp only [decide_eq_true (show (i:Int) < 36 by omega),na' (show (0:Int)≤(i:Int) by omega) (show (i:Int) < ((36:Nat):Int) by omega),cond_true,Int.toNat_natCast,wrap1 hi (show 36≤nu' by decide)]
  show (bif decide ((cntL x).getD i 0 < 0) then _ else bif decide (n≤(cntL x).getD i 0) then _ else _)=some (bif (decide (0≤(cntL x).getD i 0)&&decide ((cntL x).getD i 0 < n)) then _ else _);rw [ltD ((cntL x).getD i 0) 0,leD n ((cntL x).getD i 0)];cases decide (0≤(cntL x).getD i 0) <;> cases decide ((cntL x).getD i 0 < n) <;> rfl) (by
  show ndy' n (36:Int) x.Z0 x.V1 x.L1 x.M1 x.F1 x.U4 x.V4 x.X4 x.Y4 x.Z4 x.A5 x.B5 x.C5 x.D5 x.E5 x.R3 x.T3 x.U3 x.V3 x.X3 x.Y3 x.Z3 x.A4 x.B4 x.C4 x.D4 x.E4 x.F4 x.G4 x.H4 x.I4 x.J4 x.K4 x.L4 x.M4 x.N4 x.O4 x.P4 x.Q4 x.R4 x.S4=_;unfold ndy';simp only [show decide ((36:Int) < 36)=false from rfl,cond_false]) 36 0 (by omega)) (by omega)
 have h':nh8' ((n,(),(0:Int),()),((x.Z0,x.V1,x.L1,x.M1,x.F1,x.U4,x.V4,x.X4,x.Y4,x.Z4,x.A5,x.B5,x.C5,x.D5,x.E5,x.R3,x.T3,x.U3,x.V3,x.X3,x.Y3,x.Z3,x.A4,x.B4,x.C4,x.D4,x.E4,x.F4,x.G4,x.H4,x.I4,x.J4,x.K4,x.L4,x.M4,x.N4,x.O4,x.P4,x.Q4,x.R4,x.S4,()),()))=_:=h;unfold nhm' conOK;rw [ltD n 1,ltD 16 n];cases decide (1≤n) with
 | false=>rfl
 | true=>
  cases decide (n≤16) with
  | false=>rfl
  | true=>
   simp only [Bool.not_true,cond_false,Bool.true_and,h'];cases allN (cntP n x) 36 0 <;> rfl
theorem n0j' (n lo hi:Int):ng9' n lo hi=some ((inR lo hi n,()),()):=by
 unfold ng9' inR;cases decide (lo≤n) <;> rfl
def dutW (d:Duty):Int:=IntKind.i64.wrap (IntKind.i64.wrap (4 * d.C0) + d.G0)
def dutR (x:Belief) (i:Nat):Bool:=i==0||decide (dutW (x.M0.getD (i - 1) nbg') < dutW (x.M0.getD i nbg'))
def dutQ (b:Bldg) (car:Nat) (x:Belief) (i:Nat):Bool:=nk' b (x.M0.getD i nbg').C0 (x.M0.getD i nbg').G0&&(inR 0 (nsh' b car).S1 (x.M0.getD i nbg').H5&&dutR x i)
theorem nbe9' {b:Bldg} (hb:b.small) {car:Nat} {x:Belief}:allN (dutQ b car x) x.M0.length 0=allN (dutP b car x) x.M0.length 0:=by
 refine nxl' _ _ fun k _ _ h=>?_
 unfold dutQ dutP;cases hc:nk' b (x.M0.getD k nbg').C0 (x.M0.getD k nbg').G0 with
 | false=>rfl
 | true=>
  unfold dutR dutO;by_cases k0:k=0
  ·subst k0; rfl
  ·have hp:=h (k - 1) (by omega) (by omega)
   unfold dutQ at hp;rw [Bool.and_eq_true] at hp;have r1:=nhx' hb hp.1;have r2:=nhx' hb hc
   have e:decide (dutW (x.M0.getD (k - 1) nbg') < dutW (x.M0.getD k nbg'))=lessD (x.M0.getD (k - 1) nbg') (x.M0.getD k nbg'):=by
    unfold dutW lessD;generalize x.M0.getD (k - 1) nbg'=d1 at r1;generalize x.M0.getD k nbg'=d2 at r2;rw [nc' (n:=4 * d1.C0) (by omega) (by omega),nc' (n:=4 * d2.C0) (by omega) (by omega),nc' (n:=4 * d1.C0 + d1.G0) (by omega) (by omega),nc' (n:=4 * d2.C0 + d2.G0) (by omega) (by omega)]
    by_cases g:d1.C0 < d2.C0
    ·rw [decide_eq_true g,decide_eq_true (show 4 * d1.C0 + d1.G0 < 4 * d2.C0 + d2.G0 by omega)]; rfl
    ·rw [decide_eq_false g]
     by_cases g2:d1.C0=d2.C0
     ·rw [g2,beq_self_eq_true,Bool.false_or,Bool.true_and]
      by_cases g3:d1.G0 < d2.G0
      ·rw [decide_eq_true g3,decide_eq_true (by omega)]
      ·rw [decide_eq_false g3,decide_eq_false (by omega)]
     ·rw [beq_f g2,decide_eq_false (by omega)]; rfl
   rw [e]
theorem nc8' {b:Bldg} (hb:b.small) (hcode:b.code=0) {car:Nat} (hcar:car < b.A0.length) (x:Belief) (hx:x.M0.length≤100000):nbx' b.D0 b.E0 b.I0 b.Q0 b.J0 b.K0 b.P0 b.A0 (car:Int) x.C0 x.G0 x.Z2 x.M0 x.R2 x.Y2=some ((belOK b car x,()),()):=by
 have lo:=hb.lo;have hi8:=hb.hi;have hcc:=nn' hcode;have h5:100000≤nu':=by decide
 have h:=ng' (nrf' (step:=fun x=>letI a:=x.2.1.2.2; letI b:=x.2.2.1.2; letI c:=a.2.2; ndw' x.1.1 x.1.2.2.2.1 x.2.1.1 x.2.1.2.1 a.1 a.2.1 c.1 c.2.1 c.2.2.1 c.2.2.2.1 x.2.2.1.1 b.1 b.2.1 b.2.2.1 b.2.2.2.1 b.2.2.2.2.1) x.M0.length (fun i=>(((car:Int),(),(),(i:Int),()),(b.tup,(x.C0,x.G0,x.Z2,x.M0,x.R2,x.Y2,()),()))) (dutQ b car x) (Sum.inl ((),())) (Sum.inr ((false,()),())) (fun i hi=>by
  show ndw' (car:Int) (i:Int) b.D0 b.E0 b.I0 b.Q0 b.J0 b.K0 b.P0 b.A0 x.C0 x.G0 x.Z2 x.M0 x.R2 x.Y2=_;unfold ndw';simp only [decide_eq_true (show (i:Int) < (x.M0.length:Int) by omega),na' (show (0:Int)≤(i:Int) by omega) (show (i:Int) < (x.M0.length:Int) by omega),na' (show (0:Int)≤(car:Int) by omega) (show (car:Int) < (b.A0.length:Int) by omega),cond_true,Int.toNat_natCast,nea' hb,n0j',Option.bind_some]
  rw [show Duty.mk 0 0 0=nbg' from rfl,show Car.mk 0 0 0 0 0 0 0 0 0=⟨0,0,0,0,0,0,0,0,0⟩ from rfl]
  rw [show b.A0.getD car ⟨0,0,0,0,0,0,0,0,0⟩=nsh' b car from rfl]
  unfold dutQ dutR;cases nk' b (x.M0.getD i nbg').C0 (x.M0.getD i nbg').G0 with
  | false=>rfl
  | true=>
  cases inR 0 (nsh' b car).S1 (x.M0.getD i nbg').H5 with
  | false=>rfl
  | true=>
   simp only [Bool.not_true,cond_false,Bool.true_and];by_cases i0:i=0
   ·subst i0
    simp only [show decide ((0:Int) < ((0:Nat):Int))=false from rfl,cond_false,Option.bind_some,wrap1 hi (show x.M0.length≤nu' by omega)]
    rfl
   ·rw [decide_eq_true (show (0:Int) < (i:Int) by omega),show (i==0)=false by simpa using i0]
    simp only [cond_true,Bool.false_or,nc' (n:=(i:Int) - 1) (by omega) (by omega),na' (show (0:Int)≤(i:Int) - 1 by omega) (show (i:Int) - 1 < (x.M0.length:Int) by omega)]
    rw [show Int.toNat ((i:Int) - 1)=i - 1 by omega]
    rw [show IntKind.i64.wrap (IntKind.i64.wrap (4 * (x.M0.getD (i - 1) nbg').C0) + (x.M0.getD (i - 1) nbg').G0)=dutW (x.M0.getD (i - 1) nbg') from rfl,show IntKind.i64.wrap (IntKind.i64.wrap (4 * (x.M0.getD i nbg').C0) + (x.M0.getD i nbg').G0)=dutW (x.M0.getD i nbg') from rfl,leD]
    simp only [Option.bind_some];rw [wrap1 hi (show x.M0.length≤nu' by omega)]
    cases decide (dutW (x.M0.getD (i - 1) nbg') < dutW (x.M0.getD i nbg')) <;> rfl) (by
  show ndw' (car:Int) (x.M0.length:Int) b.D0 b.E0 b.I0 b.Q0 b.J0 b.K0 b.P0 b.A0 x.C0 x.G0 x.Z2 x.M0 x.R2 x.Y2=_;unfold ndw';simp only [decide_eq_false (Int.lt_irrefl (x.M0.length:Int)),cond_false]) x.M0.length 0 (by omega)) (by omega)
 have h':nh5' (((car:Int),(),(),(0:Int),()),(b.tup,(x.C0,x.G0,x.Z2,x.M0,x.R2,x.Y2,()),()))=_:=h;rw [nbe9' hb] at h';simp only [Bldg.tup] at h';unfold nbx' belOK;rw [ny',hcode];simp only [n0j',Option.bind_some,bne_self_eq_false,cond_false,nc' (n:=(b.A0.length:Int) - 1) (by omega) (by omega),nc' (n:=b.D0 - 1) (by omega) (by omega),show inR 0 ((b.A0.length:Int) - 1) (car:Int)=true from ns'.2 ⟨by omega,by omega⟩,Bool.not_true]
 cases inR (-1) (b.D0 - 1) x.C0 with
 | false=>rfl
 | true=>
 cases inR 0 3 x.G0 with
 | false=>rfl
 | true=>
 cases inR 0 3 x.Z2 with
 | false=>rfl
 | true=>
 cases inR 0 1000000 x.R2 with
 | false=>rfl
 | true=>
  simp only [Bool.not_true,cond_false,Bool.true_and];cases hL:x.Y2 with
  | false=>
   rw [hL] at h';simp only [cond_false,Option.bind_some,Bool.false_and,Bool.not_false,Bool.true_and,h'];cases allN (dutP b car x) x.M0.length 0 <;> rfl
  | true=>
   rw [hL] at h';cases hD:decide ((0:Int) < (x.M0.length:Int)) with
   | true=>simp only [cond_true,Option.bind_some]; rfl
   | false=>
    simp only [cond_true,cond_false,Option.bind_some,Bool.and_false,Bool.not_false,Bool.true_and,h'];cases allN (dutP b car x) x.M0.length 0 <;> rfl
theorem nsa' (x:NewCar):nb7' x.K2 x.B2=some ((nvc' x,()),()):=by
 unfold nb7' nvc' inR;cases decide (0≤x.K2) <;> cases decide (x.K2≤2) <;> cases decide (0≤x.B2) <;> rfl
theorem nbcr' (n:Int):nmy' n=some ((inR 0 1000000 n,()),()):=by
 unfold nmy' inR;cases decide (0≤n) <;> rfl
theorem nr1' (x:NewCar):nd8' x.O1 x.N2 x.G2 x.P2 x.H2=some ((nqu' x,()),()):=by
 unfold nd8' nqu' doorZ;simp only [nbcr',Option.bind_some];by_cases h:x.O1=0
 ·rw [h]; rfl
 ·rw [beq_f h]
  have e:decide (0 < x.O1)=decide (0≤x.O1):=by
   by_cases g:0 < x.O1
   ·rw [decide_eq_true g,decide_eq_true (by omega)]
   ·rw [decide_eq_false g,decide_eq_false (by omega)]
  rw [e];unfold inR;cases decide (0≤x.O1) <;> cases decide (x.O1≤3) <;> cases (decide (0≤x.N2)&&decide (x.N2≤1000000)) <;> cases (decide (0≤x.G2)&&decide (x.G2≤1000000)) <;> rfl
theorem nuq' (fl n:Int):nfw' fl n=some ((inR 0 (fl - 1) n,()),()):=by
 unfold nfw' inR
 have e:decide (n < fl)=decide (n≤fl - 1):=by
  by_cases g:n < fl
  ·rw [decide_eq_true g,decide_eq_true (by omega)]
  ·rw [decide_eq_false g,decide_eq_false (by omega)]
 rw [e];cases decide (0≤n) <;> rfl
theorem nz3' {fl:Int} (h:2≤fl∧fl≤8) (x:NewCar):nb9' fl x.G1 x.X1 x.E1=some ((motOK fl x,()),()):=by
 unfold nb9' motOK;rw [decide_eq_false (show ¬ fl < 2 by omega),decide_eq_false (show ¬ 32 < fl by omega),ltD x.X1 0,ltD 1000000 x.X1]
 simp only [cond_false,nuq',Option.bind_some];unfold inR;cases decide (0≤x.X1) with
 | false=>rfl
 | true=>
 cases decide (x.X1≤1000000) with
 | false=>rfl
 | true=>
 simp only [Bool.not_true,cond_false,Bool.true_and];by_cases c0:x.G1=0
 ·rw [c0]; rfl
 ·rw [beq_f c0]
  simp only [cond_false];by_cases c1:x.G1=1
  ·rw [c1]
   simp only [beq_self_eq_true,cond_true];cases hf:(decide (0≤x.E1)&&decide (x.E1≤fl - 1)) with
   | false=>rfl
   | true=>
    have:=ns'.1 (show inR 0 (fl - 1) x.E1=true from hf)
    unfold ncw';simp only [cond_true,beq_self_eq_true,Option.bind_some];rw [nc' (by omega) (by omega)]
    rfl
  ·rw [beq_f c1]
   simp only [cond_false];by_cases c2:x.G1=2
   ·rw [c2]
    simp only [beq_self_eq_true,cond_true];cases hf:(decide (0≤x.E1)&&decide (x.E1≤fl - 1)) with
    | false=>rfl
    | true=>
     have:=ns'.1 (show inR 0 (fl - 1) x.E1=true from hf)
     unfold ncw';simp only [cond_true,show ((2:Int)==1)=false from rfl,cond_false,Option.bind_some]
     rw [nc' (by omega) (by omega)]
     rfl
   ·rw [beq_f c2]
    rfl
theorem ni5' {b:Bldg} (hb:b.small) (hcode:b.code=0) (x:NewCar) (hx:0≤x.N1∧x.N1 < 18446744073709551616):nd3' b.D0 b.E0 b.I0 b.Q0 b.J0 b.K0 b.P0 b.A0 x.K2 x.B2 x.O1 x.N2 x.G2 x.P2 x.H2 x.G1 x.X1 x.E1 x.N1 x.K3 x.T4 x.N3=some ((newOK b x,()),()):=by
 have lo:=hb.lo;have hi8:=hb.hi;have hmin:Min.min (Int.toNat b.D0) (IntKind.bits IntKind.u64)=Int.toNat b.D0:=Nat.min_eq_left (by show _≤64; omega)
 unfold nd3' newOK;rw [ny',hcode];simp only [Option.bind_some,bne_self_eq_false,cond_false];cases hF:x.N3 with
 | true=>
  unfold carZ;rw [hF];rfl
 | false=>
  simp only [Option.bind_some,cond_false,nsa',nr1',nz3' ⟨lo,hi8⟩];unfold n68';cases nvc' x with
  | false=>rfl
  | true=>
  cases nqu' x with
  | false=>rfl
  | true=>
  cases motOK b.D0 x with
  | false=>rfl
  | true=>
   simp only [Bool.not_true,cond_false,Bool.true_and];rw [show ((x.O1==0)&&((x.N2==0)&&((x.G2==0)&&((x.P2==false)&&((x.H2==0)&&true)))))=doorZ x from rfl,show ((x.G1==0)&&((x.X1==0)&&((x.E1==0)&&true)))=motZ x from rfl]
   have fin:(bif decide (0≤IntKind.u64.wrap b.D0) then bif (Int.fdiv (IntKind.u64.wrap x.N1) ((2:Int) ^ (Min.min (Int.toNat (IntKind.u64.wrap b.D0)) (IntKind.bits IntKind.u64)))==0) then bif decide (0≤x.K3) then bif decide (x.K3≤2) then bif decide (0≤x.T4) then some ((decide (x.T4≤1000000),()),()) else some ((false,()),()) else some ((false,()),()) else some ((false,()),()) else some ((false,()),()) else none)=some ((n4f' b.D0 x,()),()):=by
    rw [ncd' (n:=b.D0) (by omega) (by omega),ncd' hx.1 hx.2,hmin,decide_eq_true (show 0≤b.D0 by omega)]
    unfold n4f' inR;cases Int.fdiv x.N1 ((2:Int) ^ (Int.toNat b.D0))==0 <;> cases decide (0≤x.K3) <;> cases decide (x.K3≤2) <;> cases decide (0≤x.T4) <;> rfl
   cases doorZ x with
   | true=>
    simp only [Bool.not_true,cond_false,Option.bind_some,Bool.true_or,Bool.true_and];rw [fin]; rfl
   | false=>
    cases motZ x with
    | true=>
     simp only [Bool.not_true,Bool.not_false,cond_true,cond_false,Option.bind_some,Bool.false_or,Bool.true_and];rw [fin]; rfl
    | false=>rfl
theorem nqb' (n:Int):nhu' n=some ((inR 0 1000000 n,()),()):=by
 unfold nhu' inR;cases decide (0≤n) <;> rfl
theorem nxd' (m:Img) {xs:List Int} (hl:xs.length≤1000000):ncg' m.F0 m.N0 m.H0 m.B0 xs=some ((nqx' xs&&(xs.length:Int)==(m.B0.length:Int),()),()):=by
 have key:∀ (k i:Nat),i + k=xs.length→iter (fun x=>nbe' x.1.1 x.1.2.2.1 x.2.1.1 x.2.1.2.1 x.2.1.2.2.1 x.2.1.2.2.2.1) (k + 1) ((xs,(),(i:Int),()),(m.tup,()))=some (if (xs.drop i).all (inR 0 1000000) then .inl ((xs,(),()),(m.tup,())) else .inr ((false,()),())):=by
  intro k
  induction k with
  | zero=>
   intro i hi;refine no' ?_;show nbe' xs (i:Int) m.F0 m.N0 m.H0 m.B0=_;unfold nbe';rw [show decide ((i:Int) < (xs.length:Int))=false by simp; omega,show i=xs.length by omega,List.drop_length]; rfl
  | succ k ih=>
   intro i hi;have hi':i < xs.length:=by omega
   have hs:nbe' xs (i:Int) m.F0 m.N0 m.H0 m.B0=some (bif inR 0 1000000 (xs.getD i 0) then .inl ((xs,(),((i + 1:Nat):Int),()),(m.tup,())) else .inr (.inr ((false,()),()))):=by
    unfold nbe';rw [decide_eq_true (show (i:Int) < (xs.length:Int) by omega),na' (by omega) (by omega),wrap1 hi' (show xs.length≤nu' by unfold nu'; omega)]
    simp only [cond_true,Int.toNat_natCast];unfold inR;rw [ltD (xs.getD i 0) 0,ltD 1000000 (xs.getD i 0)];cases decide (0≤xs.getD i 0) <;> cases decide (xs.getD i 0≤1000000) <;> rfl
   rw [nba' (0:Int) hi',List.all_cons];cases hq:inR 0 1000000 (xs.getD i 0) with
   | true=>rw [hq] at hs; exact (nv' hs).trans (ih (i + 1) (by omega))
   | false=>rw [hq] at hs; exact no' hs
 have h1:net' ((xs,(),(0:Int),()),(m.tup,()))=_:=ng' (key xs.length 0 (by omega)) (by omega)
 rw [List.drop_zero] at h1;unfold Img.tup at h1;unfold ncg';rw [h1];unfold nqx';cases xs.all (inR 0 1000000) <;> rfl
theorem nst' (p q:Nat→Bool):∀ m i:Nat,allN (fun k=>p k&&q k) m i=(allN p m i&&allN q m i)
 | 0,_=>rfl
 | m + 1,i=>by
  simp only [allN];rw [nst' p q m (i + 1)];cases p i <;> cases q i <;> cases allN p m (i + 1) <;> rfl
theorem np1' {b:Bldg} (hb:b.small) (hcode:b.code=0) {m:Mch} (hm:m.fit) (hcalls:∀ x ∈ m.A0,0≤x.N1∧x.N1 < 18446744073709551616):nft' b.D0 b.E0 b.I0 b.Q0 b.J0 b.K0 b.P0 b.A0 m.L0.F0 m.L0.N0 m.L0.H0 m.L0.B0 m.Y0.h0 m.Y0.h1 m.Y0.sel m.C1 m.S0 m.A0 m.A2 m.J1 m.B3 m.I3 m.Q2 m.E2=some ((nvl' b m,()),()):=by
 have hcc:=nn' hcode;have hex:=hm.ex;have h5:100000≤nu':=by decide
 unfold nft' nvl';rw [ny',hcode,nwb' hb m.L0 (by omega) hm.im,ngy',nxd' m.L0 (xs:=m.J1) (by omega),nqb',nqb',nqb']
 simp only [Option.bind_some,bne_self_eq_false,cond_false];rw [show decide (Sto.ok b.I0 ⟨m.Y0.h0,m.Y0.h1,m.Y0.sel⟩)=decide (m.Y0.ok b.I0) from rfl,show nqx' [m.I3,m.Q2,m.E2]=(inR 0 1000000 m.I3&&(inR 0 1000000 m.Q2&&(inR 0 1000000 m.E2&&true))) from rfl]
 unfold eachN;simp only [bne];cases fitsV b m.L0 with
 | false=>rfl
 | true=>
 cases decide (m.Y0.ok b.I0) with
 | false=>rfl
 | true=>
 by_cases l1:m.C1.length=b.A0.length
 ·by_cases l2:m.S0.length=b.A0.length
  ·by_cases l3:m.A0.length=b.A0.length
   ·by_cases l4:m.A2.length=b.A0.length
    ·by_cases l5:m.B3.length=b.A0.length
     ·have h:=ng' (nrf' (step:=fun x=>letI d:=x.2.2.1.2; letI f:=d.2.2; letI a:=f.2.2.2; letI b:=a.2.2.2.2; letI c:=x.2.1.2.2; letI e:=c.2.2; letI g:=b.2.2; ncz' x.1.2.2.1 x.1.2.2.2.1 x.2.1.1 x.2.1.2.1 c.1 c.2.1 e.1 e.2.1 e.2.2.1 e.2.2.2.1 x.2.2.1.1 d.1 d.2.1 f.1 f.2.1 f.2.2.1 a.1 a.2.1 a.2.2.1 a.2.2.2.1 b.1 b.2.1 g.1 g.2.1 g.2.2.1 g.2.2.2.1) b.A0.length (fun i=>(((),(),(b.A0.length:Int),(i:Int),()),(b.tup,m.tup,()))) (fun i=>conOK b.E0 (m.C1.getD i nco')&&(belOK b i (m.S0.getD i (Belief.mk 0 0 0 [] 0 false))&&(newOK b (m.A0.getD i ncp')&&nxp' (m.A2.getD i nd5')))) (Sum.inl ((),())) (Sum.inr ((false,()),())) (fun i hi=>by
       have hm2:=n5' (l:=m.S0) (Belief.mk 0 0 0 [] 0 false) (i:=i) (by omega)
       have hm3:=n5' (l:=m.A0) ncp' (i:=i) (by omega)
       show ncz' (b.A0.length:Int) (i:Int) b.D0 b.E0 b.I0 b.Q0 b.J0 b.K0 b.P0 b.A0 m.L0.F0 m.L0.N0 m.L0.H0 m.L0.B0 m.Y0.h0 m.Y0.h1 m.Y0.sel m.C1 m.S0 m.A0 m.A2 m.J1 m.B3 m.I3 m.Q2 m.E2=_;unfold ncz';simp only [decide_eq_true (show (i:Int) < (b.A0.length:Int) by omega),na' (show (0:Int)≤(i:Int) by omega) (show (i:Int) < (m.C1.length:Int) by omega),na' (show (0:Int)≤(i:Int) by omega) (show (i:Int) < (m.S0.length:Int) by omega),na' (show (0:Int)≤(i:Int) by omega) (show (i:Int) < (m.A0.length:Int) by omega),na' (show (0:Int)≤(i:Int) by omega) (show (i:Int) < (m.A2.length:Int) by omega),cond_true,Int.toNat_natCast,wrap1 hi (show b.A0.length≤nu' by omega)]
       rw [show Debounced.mk 0 false false false false 0 0 0 0 0 0 0 0 0 0 0 0 0 0 0 0 0 0 0 0 0 0 0 0 0 0 0 0 0 0 0 0 0 0 0 0=nco' from rfl,show NewCar.mk 0 0 0 0 0 false 0 0 0 0 0 0 0 false=ncp' from rfl,show Loaded.mk 0=nd5' from rfl]
       rw [nse' b.E0 (m.C1.getD i nco'),nc8' hb hcode hi (m.S0.getD i (Belief.mk 0 0 0 [] 0 false)) (hm.du _ hm2),ni5' hb hcode (m.A0.getD i ncp') (hcalls _ hm3)];simp only [Option.bind_some];rw [ltD (m.A2.getD i nd5').F5 0,ltD 4 (m.A2.getD i nd5').F5];unfold nxp' inR;cases conOK b.E0 (m.C1.getD i nco') <;> cases belOK b i (m.S0.getD i (Belief.mk 0 0 0 [] 0 false)) <;> cases newOK b (m.A0.getD i ncp') <;> cases decide (0≤(m.A2.getD i nd5').F5) <;> cases decide ((m.A2.getD i nd5').F5≤4) <;> rfl) (by
       show ncz' (b.A0.length:Int) (b.A0.length:Int) b.D0 b.E0 b.I0 b.Q0 b.J0 b.K0 b.P0 b.A0 m.L0.F0 m.L0.N0 m.L0.H0 m.L0.B0 m.Y0.h0 m.Y0.h1 m.Y0.sel m.C1 m.S0 m.A0 m.A2 m.J1 m.B3 m.I3 m.Q2 m.E2=_;unfold ncz';simp only [decide_eq_false (Int.lt_irrefl (b.A0.length:Int)),cond_false]) b.A0.length 0 (by omega)) (by omega)
      rw [nst',nst',nst'] at h;have h':nf1' (((),(),(b.A0.length:Int),(0:Int),()),(b.tup,m.tup,()))=_:=h;simp only [Bldg.tup,Mch.tup] at h';rw [l1,l2,l3,l4,l5];simp only [beq_self_eq_true,Bool.not_true,cond_false,Bool.true_and,Bool.and_true];rw [h'];generalize allN (fun i=>conOK b.E0 (m.C1.getD i nco')) b.A0.length 0=q1
      generalize allN (fun i=>belOK b i (m.S0.getD i (Belief.mk 0 0 0 [] 0 false))) b.A0.length 0=q2
      generalize allN (fun i=>newOK b (m.A0.getD i ncp')) b.A0.length 0=q3
      generalize allN (fun i=>nxp' (m.A2.getD i nd5')) b.A0.length 0=q4
      generalize ((m.J1.length:Int)==(m.L0.B0.length:Int))=q5;generalize inR 0 1000000 m.I3=q6;generalize inR 0 1000000 m.Q2=q7;generalize inR 0 1000000 m.E2=q8;cases nqx' m.J1
      ·cases q5 <;> rfl
      cases q5
      ·rfl
      cases q6
      ·rfl
      cases q7
      ·rfl
      cases q8
      ·rfl
      cases q1 <;> cases q2 <;> cases q3 <;> cases q4 <;> rfl
     ·simp [beq_f (show ¬ (m.B3.length:Int)=(b.A0.length:Int) by omega)]
    ·simp [beq_f (show ¬ (m.A2.length:Int)=(b.A0.length:Int) by omega)]
   ·simp [beq_f (show ¬ (m.A0.length:Int)=(b.A0.length:Int) by omega)]
  ·simp [beq_f (show ¬ (m.S0.length:Int)=(b.A0.length:Int) by omega)]
 ·simp [beq_f (show ¬ (m.C1.length:Int)=(b.A0.length:Int) by omega)]
end Go.Ovl
namespace Go.Ovl
open Go Go.Ab
def bv (f:Int):BitVec 32:=BitVec.ofInt 32 f
def vb (b:BitVec 32):Int:=(b.toNat:Int)
theorem nf0' (b:BitVec 32):0≤vb b∧vb b < 4294967296:=by
 have:=b.isLt
 unfold vb; omega
theorem bv_vb (b:BitVec 32):bv (vb b)=b:=by
 apply BitVec.eq_of_toNat_eq
 have:=b.isLt
 simp only [bv,vb,BitVec.toNat_ofInt];omega
theorem vb_bv {f:Int} (h:0≤f∧f < 4294967296):vb (bv f)=f:=by
 simp only [bv,vb,BitVec.toNat_ofInt];omega
theorem nvh' (b:BitVec 32):IntKind.u32.wrap ((b.toNat:Nat):Int)=vb b:=by
 have:=b.isLt
 simp only [IntKind.wrap,IntKind.signed,IntKind.bits,vb];simp;omega
theorem n3k':IntKind.bits .u32=32:=rfl
theorem nber' (f:Int):bv (IntKind.u32.wrap f)=bv f:=by
 apply BitVec.eq_of_toNat_eq;simp only [bv,BitVec.toNat_ofInt,IntKind.wrap,IntKind.signed,IntKind.bits];simp
theorem nbgn' (i:Nat):bv (IntKind.u32.wrap (1 * 2 ^ min i (IntKind.bits .u32)))=if i < 32 then BitVec.twoPow 32 i else 0#32:=by
 rw [nber',Int.one_mul];apply BitVec.eq_of_toNat_eq;simp only [bv,BitVec.toNat_ofInt,n3k'];by_cases h:i < 32
 ·rw [if_pos h,Nat.min_eq_left (by omega),BitVec.toNat_twoPow]
  have:((2:Int) ^ i)=((2 ^ i:Nat):Int):=by simp
  rw [this]
  norm_cast
 ·rw [if_neg h,Nat.min_eq_right (by omega)]
  rfl
def bitF (f:Int) (i:Nat):Bool:=(bv f).getLsbD i
theorem nww' {f:Int} (h:0≤f∧f < 4294967296) {i:Nat} (hi:i < 32) :
  (IntKind.u32.wrap ((BitVec.toNat (BitVec.ofInt (IntKind.bits .u32) (Int.fdiv f (2 ^ min i (IntKind.bits .u32))) &&& BitVec.ofInt (IntKind.bits .u32) 1):Nat):Int)==1)=bitF f i:=by
 have e:Int.fdiv f (2 ^ min i (IntKind.bits .u32))=((f.toNat / 2 ^ i:Nat):Int):=by
  rw [n3k',Nat.min_eq_left (by omega),Int.fdiv_eq_ediv_of_nonneg _ (by exact Int.le_of_lt (Int.pow_pos (by omega)))]
  have:f=((f.toNat:Nat):Int):=by omega
  rw [this];simp
 rw [e];show (IntKind.u32.wrap (((bv ((f.toNat / 2 ^ i:Nat):Int) &&& bv 1).toNat:Nat):Int)==1)=_;rw [nvh']
 have hb:(bv ((f.toNat / 2 ^ i:Nat):Int) &&& bv 1)=if bitF f i then 1#32 else 0#32:=by
  apply BitVec.eq_of_getLsbD_eq;intro j hj
  have h1:(bv ((f.toNat / 2 ^ i:Nat):Int)).getLsbD j=(f.toNat / 2 ^ i).testBit j:=by
   simp only [bv,BitVec.getLsbD,BitVec.toNat_ofInt]
   have:(((f.toNat / 2 ^ i:Nat):Int) % ((2 ^ 32:Nat):Int)).toNat=(f.toNat / 2 ^ i) % 2 ^ 32:=by norm_cast
   rw [this,Nat.testBit_mod_two_pow];simp [hj]
  have h2:bitF f i=f.toNat.testBit i:=by
   simp only [bitF,bv,BitVec.getLsbD,BitVec.toNat_ofInt]
   have:(f % ((2 ^ 32:Nat):Int)).toNat=f.toNat:=by simp; omega
   rw [this]
  have h3:(bv 1).getLsbD j=decide (j=0):=by
   have:bv 1=1#32:=rfl
   rw [this]; simp [BitVec.getLsbD_one]
  rw [BitVec.getLsbD_and,h1,h3,h2];by_cases hj0:j=0
  ·subst hj0
   rw [Nat.testBit_div_two_pow];simp only [Nat.zero_add,decide_true,Bool.and_true];cases f.toNat.testBit i <;> simp
  ·simp only [hj0,decide_false,Bool.and_false]
   cases f.toNat.testBit i <;> simp [BitVec.getLsbD_one,hj0]
 rw [hb];cases bitF f i <;> rfl
theorem n6a' {f g:Int} (hf:0≤f∧f < 4294967296) (hg:0≤g∧g < 4294967296) (h:∀ i,i < 32→bitF f i=bitF g i):f=g:=by
 rw [← vb_bv hf,← vb_bv hg];congr 1;apply BitVec.eq_of_getLsbD_eq;intro i hi;exact h i hi
end Go.Ovl
namespace Go.Ovl
open Go Go.Ab
theorem w_or (x y:Int):IntKind.u32.wrap (stk x y (BitVec.toNat (BitVec.ofInt (IntKind.bits .u32) x ||| BitVec.ofInt (IntKind.bits .u32) y)))=vb (bv x ||| bv y):=by
 rw [noi']; exact nvh' _
theorem w_and (x y:Int):IntKind.u32.wrap (stk x y (BitVec.toNat (BitVec.ofInt (IntKind.bits .u32) x &&& BitVec.ofInt (IntKind.bits .u32) y)))=vb (bv x &&& bv y):=by
 rw [noi']; exact nvh' _
theorem nkk' (x y:Int):IntKind.u32.wrap (stk x y (BitVec.toNat (BitVec.ofInt (IntKind.bits .u32) x &&& ~~~ BitVec.ofInt (IntKind.bits .u32) y)))=vb (bv x &&& ~~~ bv y):=by
 rw [noi']; exact nvh' _
theorem nqt' (b:BitVec 32) (i:Nat):bitF (vb b) i=b.getLsbD i:=by unfold bitF; rw [bv_vb]
theorem nbho' (f:Int) {i:Nat} (h:32≤i):bitF f i=false:=by unfold bitF; exact BitVec.getLsbD_of_ge _ _ h
theorem n7d' {k:Nat} (h:k < 32) (i:Nat):bitF (IntKind.u32.wrap (1 * 2 ^ min k (IntKind.bits .u32))) i=decide (i=k):=by
 unfold bitF;rw [nbgn',if_pos h,BitVec.getLsbD_twoPow];by_cases e:i=k
 ·subst e; simp [h]
 ·simp [e,Ne.symm e]
theorem nbcl' {f:Int} (h:0≤f∧f < 4294967296) (i:Nat):bitF f i=f.toNat.testBit i:=by
 simp only [bitF,bv,BitVec.getLsbD,BitVec.toNat_ofInt]
 have:(f % ((2 ^ 32:Nat):Int)).toNat=f.toNat:=by simp; omega
 rw [this]
def powC (floor:Int):Int:=IntKind.u32.wrap (1 * 2 ^ min (Int.toNat floor) (IntKind.bits .u32))
def oneC (floor dir:Int):Int×Int:=
 bif inR 0 31 floor then (bif dir==1 then (powC floor,0) else bif dir==2 then (0,powC floor) else (0,0)) else (0,0)
theorem niv' (floor dir:Int):nc5' floor dir=some (((),()),(((oneC floor dir).1,(oneC floor dir).2,()),())):=by
 unfold nc5' oneC inR;by_cases g:floor < 0
 ·rw [decide_eq_true g,decide_eq_false (show ¬ 0≤floor by omega)]; rfl
 ·rw [decide_eq_false g,decide_eq_true (show 0≤floor by omega)]
  by_cases g':31 < floor
  ·rw [decide_eq_true g',decide_eq_false (show ¬ floor≤31 by omega)]; rfl
  ·rw [decide_eq_false g',decide_eq_true (show floor≤31 by omega)]
   have w:IntKind.u64.wrap floor=floor:=ncd' (by omega) (by omega)
   simp only [cond_false,w,decide_eq_true (show 0≤floor by omega),cond_true,Bool.and_self]
   cases dir==1 <;> cases dir==2 <;> rfl
def orC (a c:Int):Int:=vb (bv a ||| bv c)
def minC (a c:Int):Int:=vb (bv a &&& ~~~ bv c)
def n1' (a c:Int×Int):Int×Int:=(orC a.1 c.1,orC a.2 c.2)
def nr' (a c:Int×Int):Int×Int:=(minC a.1 c.1,minC a.2 c.2)
theorem nev' (a c:Int×Int):nbw' a.1 a.2 c.1 c.2=some (((),()),(((n1' a c).1,(n1' a c).2,()),())):=by
 unfold nbw';rw [w_or,w_or]; rfl
theorem nik' (a c:Int×Int):ncn' a.1 a.2 c.1 c.2=some (((),()),(((nr' a c).1,(nr' a c).2,()),())):=by
 unfold ncn';rw [nkk',nkk']; rfl
def bitC (c:Int×Int) (f:Nat) (d:Int):Bool:=bif d==1 then bitF c.1 f else bif d==2 then bitF c.2 f else false
def u32C (c:Int×Int):Prop:=(0≤c.1∧c.1 < 4294967296)∧(0≤c.2∧c.2 < 4294967296)
theorem nban' (a c:Int×Int):u32C (n1' a c):=⟨nf0' _,nf0' _⟩
theorem nh9' (a c:Int×Int):u32C (nr' a c):=⟨nf0' _,nf0' _⟩
theorem nwn':u32C (0,0):=⟨⟨by decide,by decide⟩,⟨by decide,by decide⟩⟩
theorem nuo' (i:Nat):bitF 0 i=false:=by
 unfold bitF bv;simp
theorem nn1' (f:Nat) (d:Int):bitC (0,0) f d=false:=by
 unfold bitC;simp only [nuo'];cases d==1 <;> cases d==2 <;> rfl
theorem nxc' (a c:Int×Int) (f:Nat) (d:Int):bitC (n1' a c) f d=(bitC a f d||bitC c f d):=by
 unfold bitC n1' orC;simp only [nqt',BitVec.getLsbD_or];cases d==1 <;> cases d==2 <;> rfl
theorem nbi' (a c:Int×Int) {f:Nat} (hf:f < 32) (d:Int):bitC (nr' a c) f d=(bitC a f d&&!bitC c f d):=by
 unfold bitC nr' minC;simp only [nqt',BitVec.getLsbD_and,BitVec.getLsbD_not,hf,decide_true,Bool.true_and];cases d==1 <;> cases d==2 <;> rfl
theorem nbee' {F D:Int} (hF:0≤F∧F < 32) (hD:D=1∨D=2) (f:Nat) {d:Int} (hd:d=1∨d=2):bitC (oneC F D) f d=decide (((f:Int),d)=(F,D)):=by
 have hp:bitF (powC F) f=decide (f=F.toNat):=n7d' (k:=F.toNat) (by omega) f
 have e:decide (((f:Int),d)=(F,D))=(decide (f=F.toNat)&&decide (d=D)):=by
  rw [Bool.eq_iff_iff,Bool.and_eq_true,decide_eq_true_eq,decide_eq_true_eq,decide_eq_true_eq,Prod.mk.injEq];constructor
  ·rintro ⟨h1,h2⟩; exact ⟨by omega,h2⟩
  ·rintro ⟨h1,h2⟩; exact ⟨by omega,h2⟩
 rw [e];unfold oneC bitC;rw [ns'.2 ⟨hF.1,show F≤31 by omega⟩]
 rcases hD with rfl | rfl <;> rcases hd with rfl | rfl
 ·simp [hp]
 ·simp [nuo']
 ·simp [nuo']
 ·simp [hp]
theorem nu0' {a c:Int×Int} (ha:u32C a) (hc:u32C c) (h:∀ f:Nat,f < 32→∀ d:Int,(d=1∨d=2)→bitC a f d=bitC c f d):a=c:=by
 have h1:a.1=c.1:=n6a' ha.1 hc.1 fun i hi=>h i hi 1 (.inl rfl)
 have h2:a.2=c.2:=n6a' ha.2 hc.2 fun i hi=>h i hi 2 (.inr rfl)
 exact Prod.ext h1 h2
def callE (e:Entry):Prop:=(0≤e.C0∧e.C0 < 32)∧(e.G0=1∨e.G0=2)
def ofC:List Entry→Int×Int→Int×Int
 | [],c=>c
 | e :: t,c=>ofC t (n1' c (oneC e.C0 e.G0))
theorem n56':∀ {l:List Entry} {c:Int×Int},(∀ e ∈ l,callE e)→∀ (f:Nat) {d:Int},(d=1∨d=2)→(bitC (ofC l c) f d=true↔bitC c f d=true∨((f:Int),d) ∈ l.map nc6')
 | [],_,_,f,d,_=>by simp [ofC]
 | e :: t,c,h,f,d,hd=>by
  have he:=h e (List.mem_cons_self ..);simp only [ofC];rw [n56' (fun x hx=>h x (List.mem_cons_of_mem _ hx)) f hd,nxc',nbee' he.1 he.2 f hd,Bool.or_eq_true,decide_eq_true_eq,List.map_cons,List.mem_cons]
  show (_∨_=(e.C0,e.G0))∨_↔_∨_=(e.C0,e.G0)∨_;exact or_assoc
theorem n80' {l:List Entry} (hl:l.length≤100000):nsv' l=some (((),()),(((ofC l (0,0)).1,(ofC l (0,0)).2,()),())):=by
 have h:=nz' (step:=fun x=>niz' x.1.1 x.1.2.2.2.1 x.2.1.1 x.2.1.2.1 x.2.2.1.1 x.2.2.1.2.1) l.length (fun i (c:Int×Int)=>((l,(),(),(i:Int),()),(((0:Int),(0:Int),()),(c.1,c.2,()),()))) (fun i c=>n1' c (oneC (l.getD i noE).C0 (l.getD i noE).G0)) (fun _ _=>True) (fun c=>(((),(),()),(((0:Int),(0:Int),()),(c.1,c.2,()),()))) (fun i c hi _=>by
  refine ⟨?_,trivial⟩;show niz' l (i:Int) 0 0 c.1 c.2=_;unfold niz';rw [show Entry.mk 0 0 0 0 false=noE from rfl]
  have hu:=nev' c (oneC (l.getD i noE).C0 (l.getD i noE).G0);simp only [decide_eq_true (show (i:Int) < (l.length:Int) by omega),na' (show (0:Int)≤(i:Int) by omega) (show (i:Int) < (l.length:Int) by omega),cond_true,Int.toNat_natCast,niv',Option.bind_some,hu,wrap1 hi (show l.length≤nu' by unfold nu'; omega)]) (fun c _=>by
  show niz' l (l.length:Int) 0 0 c.1 c.2=_;unfold niz';simp only [decide_eq_false (Int.lt_irrefl (l.length:Int)),cond_false]) l.length 0 (0,0) (by omega) trivial
 have h':=ng' h.1 (by omega)
 have e:∀ (l:List Entry) (c:Int×Int),l.foldl (fun c e=>n1' c (oneC e.C0 e.G0)) c=ofC l c:=fun l=>by
  induction l with
  | nil=>exact fun c=>rfl
  | cons a t ih=>exact fun c=>ih _
 have e2:∀ (k i:Nat) (c:Int×Int),i + k=l.length→foldN (fun i c=>n1' c (oneC (l.getD i noE).C0 (l.getD i noE).G0)) k i c=ofC (l.drop i) c:=by
  intro k
  induction k with
  | zero=>
   intro i c hi;obtain rfl:i=l.length:=by omega
   rw [List.drop_length]; rfl
  | succ k ih=>
   intro i c hi;rw [nba' noE (show i < l.length by omega)]
   exact ih (i + 1) _ (by omega)
 rw [e2 l.length 0 (0,0) (by omega),List.drop_zero] at h'
 unfold nsv';rw [show no2' ((l,(),(),(0:Int),()),(((0:Int),(0:Int),()),((0:Int),(0:Int),()),()))=_ from h']
 rfl
theorem nyi' {c:Int×Int} (hc:u32C c) {f:Nat} (hf:f < 32) {d:Int} (hd:d=1∨d=2):nc1' c.1 c.2 (f:Int) d=some ((bitC c f d,()),()):=by
 have w:IntKind.u64.wrap (f:Int)=(f:Int):=ncd' (by omega) (by omega)
 have t1:=nww' hc.1 hf;have t2:=nww' hc.2 hf;unfold nc1' bitC;rw [decide_eq_false (show ¬ (f:Int) < 0 by omega),decide_eq_false (show ¬ (31:Int) < (f:Int) by omega)]
 simp only [cond_false,w,decide_eq_true (show (0:Int)≤(f:Int) by omega),cond_true,Int.toNat_natCast,noi',t1,t2]
 rcases hd with rfl | rfl
 ·simp only [beq_self_eq_true,cond_true,show ((1:Int)==2)=false from rfl,cond_false]
  cases bitF c.1 f <;> rfl
 ·simp only [show ((2:Int)==1)=false from rfl,cond_false,beq_self_eq_true,cond_true,Option.bind_some]
def ncf' (c:Int×Int) (f:Nat):List Entry:=(bif bitC c f 1 then [⟨(f:Int),1,-1,0,false⟩] else [])++(bif bitC c f 2 then [⟨(f:Int),2,-1,0,false⟩] else [])
theorem nsy' (c:Int×Int) (f:Nat):(ncf' c f).length≤2:=by
 unfold ncf';cases bitC c f 1 <;> cases bitC c f 2 <;> simp
theorem n8l' {c:Int×Int} (hc:u32C c) {f:Nat} (hf:f < 32) {out:List Entry} (ho:out.length≤1000):nky' (((),out,(f:Int),(1:Int),()),((c.1,c.2,()),()))=some (((),out++ncf' c f,(f:Int),()),((c.1,c.2,()),())):=by
 have b1:∀ (l:List Entry) (e:Entry),l.length≤1001→Nat.ble (l.length + [e].length) 2147483648=true:=fun l e h=>nh' (by rw [List.length_singleton]; omega)
 have r:∀ (l:List Entry) (d:Int),l.length≤1001→(d=1∨d=2)→nl4' l (f:Int) d c.1 c.2=some (.inl (((),l++(bif bitC c f d then [⟨(f:Int),d,-1,0,false⟩] else []),(f:Int),d + 1,()),((c.1,c.2,()),()))):=fun l d hl hd=>by
  unfold nl4';rw [decide_eq_true (show d≤2 by omega),nyi' hc hf hd,nc' (n:=d + 1) (by omega) (by omega)]
  simp only [cond_true,Option.bind_some,b1 l _ hl];cases bitC c f d
  ·simp
  ·rfl
 have h:iter (fun x=>nl4' x.1.2.1 x.1.2.2.1 x.1.2.2.2.1 x.2.1.1 x.2.1.2.1) 3 (((),out,(f:Int),(1:Int),()),((c.1,c.2,()),()))=some (((),out++ncf' c f,(f:Int),()),((c.1,c.2,()),())):=by
  refine (nv' (r out 1 (by omega) (.inl rfl))).trans ?_
  refine (nv' (r _ 2 ?_ (.inr rfl))).trans ?_
  ·rw [List.length_append]
   cases bitC c f 1 <;> simp <;> omega
  ·rw [List.append_assoc]
   exact no' rfl
 exact ng' h (by omega)
def listC (c:Int×Int):List Entry:=(List.range' 0 32).flatMap (ncf' c)
theorem nyo' {c:Int×Int} {f:Nat} {p:Int×Int}:p ∈ (ncf' c f).map nc6'↔p.1=(f:Int)∧(p.2=1∨p.2=2)∧bitC c f p.2=true:=by
 obtain ⟨a,d⟩:=p;unfold ncf';rw [List.map_append,List.mem_append]
 have h:∀ D:Int,(a,d) ∈ (bif bitC c f D then [Entry.mk (f:Int) D (-1) 0 false] else []).map nc6'↔a=(f:Int)∧d=D∧bitC c f D=true:=fun D=>by
  cases bitC c f D <;> simp [nc6']
 rw [h,h];constructor
 ·rintro (⟨h1,rfl,h3⟩ | ⟨h1,rfl,h3⟩)
  ·exact ⟨h1,.inl rfl,h3⟩
  ·exact ⟨h1,.inr rfl,h3⟩
 ·rintro ⟨h1,h2,h3⟩
  simp only at h1 h2 h3;rcases h2 with rfl | rfl
  ·exact .inl ⟨h1,rfl,h3⟩
  ·exact .inr ⟨h1,rfl,h3⟩
theorem mem_range {c:Int×Int} {p:Int×Int} {i k:Nat}:p ∈ ((List.range' i k).flatMap (ncf' c)).map nc6'↔∃ f:Nat,(i≤f∧f < i + k)∧p.1=(f:Int)∧(p.2=1∨p.2=2)∧bitC c f p.2=true:=by
 constructor
 ·intro h
  obtain ⟨e,he,rfl⟩:=List.mem_map.1 h;obtain ⟨f,hf,he⟩:=List.mem_flatMap.1 he;exact ⟨f,List.mem_range'_1.1 hf,nyo'.1 (List.mem_map.2 ⟨e,he,rfl⟩)⟩
 ·rintro ⟨f,hf,h⟩
  obtain ⟨e,he,h2⟩:=List.mem_map.1 (nyo'.2 h);exact List.mem_map.2 ⟨e,List.mem_flatMap.2 ⟨f,List.mem_range'_1.2 hf,he⟩,h2⟩
theorem nz2' (a c:Int×Int):nj5' a.1 a.2 c.1 c.2=some (((),()),(((n1' a c).1,(n1' a c).2,()),())):=by
 unfold nj5';rw [w_or,w_or]; rfl
theorem nja' (a c:Int×Int):neb' a.1 a.2 c.1 c.2=some (((),()),(((nr' a c).1,(nr' a c).2,()),())):=by
 unfold neb';rw [nkk',nkk']; rfl
def bothC (a c:Int×Int):Int×Int:=(vb (bv a.1 &&& bv c.1),vb (bv a.2 &&& bv c.2))
theorem ns2' (a c:Int×Int):u32C (bothC a c):=⟨nf0' _,nf0' _⟩
theorem noo' (a c:Int×Int):nf9' a.1 a.2 c.1 c.2=some (((),()),(((bothC a c).1,(bothC a c).2,()),())):=by
 unfold nf9';rw [w_and,w_and]; rfl
theorem njc' (a c:Int×Int):nhc' a.1 a.2 c.1 c.2=some (((),()),(((bothC a c).1,(bothC a c).2,()),())):=by
 unfold nhc';rw [w_and,w_and]; rfl
theorem nel' (a c:Int×Int) (f:Nat) (d:Int):bitC (bothC a c) f d=(bitC a f d&&bitC c f d):=by
 unfold bitC bothC;simp only [nqt',BitVec.getLsbD_and];cases d==1 <;> cases d==2 <;> rfl
def isZ (c:Int×Int):Bool:=(c.1==0)&&((c.2==0)&&true)
theorem nm1' {c:Int×Int} (hc:u32C c):isZ c=true↔∀ f:Nat,f < 32→∀ d:Int,(d=1∨d=2)→bitC c f d=false:=by
 constructor
 ·intro h f _ d _
  unfold isZ at h;simp only [Bool.and_eq_true,beq_iff_eq] at h;obtain ⟨h1,h2,_⟩:=h;rw [show c=(0,0) from Prod.ext h1 h2,nn1']
 ·intro h
  have:c=(0,0):=nu0' hc nwn' fun f hf d hd=>by rw [h f hf d hd,nn1']
  rw [this]; rfl
theorem n7v' {c:Int×Int} (hc:u32C c) {F D:Int} (hF:0≤F∧F < 32) (hD:D=1∨D=2):nc1' c.1 c.2 F D=some ((bitC c F.toNat D,()),()):=by
 have h:=nyi' hc (f:=F.toNat) (by omega) hD
 rw [Int.toNat_of_nonneg hF.1] at h;exact h
def hallC (b:Bldg):Int×Int:=(IntKind.u32.wrap (IntKind.u32.wrap (1 * 2 ^ min (Int.toNat (b.D0 - 1)) (IntKind.bits .u32)) - 1),IntKind.u32.wrap (IntKind.u32.wrap (IntKind.u32.wrap (1 * 2 ^ min (Int.toNat (b.D0 - 1)) (IntKind.bits .u32)) - 1) * 2 ^ min (Int.toNat (1:Int)) (IntKind.bits .u32)))
def hallU (n:Nat):Int:=IntKind.u32.wrap (IntKind.u32.wrap (1 * 2 ^ min n (IntKind.bits .u32)) - 1)
theorem nbdq':((List.range 9).all fun n=>(List.range 32).all fun i=>(bitF (hallU n) i==decide (i < n))&&(bitF (IntKind.u32.wrap (hallU n * 2 ^ min (Int.toNat 1) (IntKind.bits .u32))) i==(decide (1≤i)&&decide (i≤n))))=true:=by kernel_rfl
theorem n4q' (b:Bldg):u32C (hallC b):=by
 have k:∀ n:Int,0≤IntKind.u32.wrap n∧IntKind.u32.wrap n < 4294967296:=fun n=>by
  simp only [IntKind.wrap,IntKind.signed,IntKind.bits];simp;omega
 exact ⟨k _,k _⟩
theorem nsu' {b:Bldg} (hb:b.small) (hcode:b.code=0) {f:Nat} (hf:f < 32) {d:Int} (hd:d=1∨d=2):bitC (hallC b) f d=nk' b (f:Int) d:=by
 have lo:=hb.lo;have hi:=hb.hi;have t:=List.all_eq_true.1 (List.all_eq_true.1 nbdq' (b.D0 - 1).toNat (List.mem_range.2 (by omega))) f (List.mem_range.2 hf)
 rw [Bool.and_eq_true,beq_iff_eq,beq_iff_eq] at t;unfold nk' callB;rw [hcode];rcases hd with rfl | rfl
 ·have e:bitC (hallC b) f 1=bitF (hallU (b.D0 - 1).toNat) f:=rfl
  rw [e,t.1];unfold inR;rw [decide_eq_true (show (0:Int)≤(f:Int) by omega)]
  by_cases g:f < (b.D0 - 1).toNat
  ·rw [decide_eq_true g,decide_eq_true (show (f:Int)≤b.D0 - 2 by omega)]; rfl
  ·rw [decide_eq_false g,decide_eq_false (show ¬ (f:Int)≤b.D0 - 2 by omega)]; rfl
 ·have e:bitC (hallC b) f 2=bitF (IntKind.u32.wrap (hallU (b.D0 - 1).toNat * 2 ^ min (Int.toNat 1) (IntKind.bits .u32))) f:=rfl
  rw [e,t.2];unfold inR;by_cases g:1≤f
  ·rw [decide_eq_true g,decide_eq_true (show (1:Int)≤(f:Int) by omega)]
   by_cases g':f≤(b.D0 - 1).toNat
   ·rw [decide_eq_true g',decide_eq_true (show (f:Int)≤b.D0 - 1 by omega)]; rfl
   ·rw [decide_eq_false g',decide_eq_false (show ¬ (f:Int)≤b.D0 - 1 by omega)]; rfl
  ·rw [decide_eq_false g,decide_eq_false (show ¬ (1:Int)≤(f:Int) by omega)]; rfl
def hallS (b:Bldg) (i:Nat) (s:Int×Int):Int×Int:=(bif nk' b (i:Int) 1 then orC s.1 (powC (i:Int)) else s.1,bif nk' b (i:Int) 2 then orC s.2 (powC (i:Int)) else s.2)
theorem nne' {b:Bldg} (hb:b.small) (hcode:b.code=0):ng5' b.D0 b.E0 b.I0 b.Q0 b.J0 b.K0 b.P0 b.A0=some (((),()),(((hallC b).1,(hallC b).2,()),())):=by
 have h:=nz' (step:=fun x=>letI a:=x.2.1.2.2; letI b:=a.2.2; nf8' x.1.2.2.2.1 x.2.1.1 x.2.1.2.1 a.1 a.2.1 b.1 b.2.1 b.2.2.1 b.2.2.2.1 x.2.2.1.1 x.2.2.1.2.1 x.2.2.2.1.1 x.2.2.2.1.2.1) 32 (fun i (s:Int×Int)=>(((),(),(),(i:Int),()),(b.tup,((0:Int),(0:Int),()),(s.1,s.2,()),()))) (hallS b)
  (fun i s=>u32C s∧∀ f:Nat,f < 32→∀ d:Int,(d=1∨d=2)→bitC s f d=(decide (f < i)&&nk' b (f:Int) d)) (fun s=>(((),(),()),(((0:Int),(0:Int),()),(s.1,s.2,()),()))) (fun i s hi hs=>by
  have w:IntKind.u64.wrap (i:Int)=(i:Int):=ncd' (by omega) (by omega)
  have hp:∀ j,bitF (powC (i:Int)) j=decide (j=i):=fun j=>n7d' (k:=i) hi j
  refine ⟨?_,⟨?_,?_⟩,fun f hf d hd=>?_⟩
  ·show nf8' (i:Int) b.D0 b.E0 b.I0 b.Q0 b.J0 b.K0 b.P0 b.A0 0 0 s.1 s.2=_
   unfold nf8' hallS;rw [nea' hb,decide_eq_true (show (i:Int) < 32 by omega)]
   simp only [Option.bind_some,cond_true,w,decide_eq_true (show (0:Int)≤(i:Int) by omega),w_or]
   cases nk' b (i:Int) 1 with
   | true=>
    simp only [cond_true,Option.bind_some,nea' hb,w,decide_eq_true (show (0:Int)≤(i:Int) by omega),nc' (n:=(i:Int) + 1) (by omega) (by omega)]
    cases nk' b (i:Int) 2 <;> rfl
   | false=>
    simp only [cond_false,Option.bind_some,nea' hb,w,decide_eq_true (show (0:Int)≤(i:Int) by omega),cond_true,nc' (n:=(i:Int) + 1) (by omega) (by omega)]
    cases nk' b (i:Int) 2 <;> rfl
  ·unfold hallS
   cases nk' b (i:Int) 1
   ·exact hs.1.1
   ·exact nf0' _
  ·unfold hallS
   cases nk' b (i:Int) 2
   ·exact hs.1.2
   ·exact nf0' _
  ·have hk:=hs.2 f hf d hd
   have dk:decide (f < i + 1)=(decide (f < i)||decide (f=i)):=by
    rw [Bool.eq_iff_iff,Bool.or_eq_true,decide_eq_true_eq,decide_eq_true_eq,decide_eq_true_eq]; omega
   rw [dk];rcases hd with rfl | rfl
   ·have e:bitC (hallS b i s) f 1=bitF (bif nk' b (i:Int) 1 then orC s.1 (powC (i:Int)) else s.1) f:=rfl
    have hk':bitF s.1 f=_:=hk;rw [e];cases hc:nk' b (i:Int) 1 with
    | true=>
     rw [cond_true];unfold orC;rw [nqt',BitVec.getLsbD_or];show (bitF s.1 f||bitF (powC (i:Int)) f)=_
     rw [hk',hp];by_cases g:f=i
     ·subst g; rw [hc]; simp
     ·rw [decide_eq_false g]; simp
    | false=>
     rw [cond_false,hk'];by_cases g:f=i
     ·subst g; rw [hc]; simp
     ·rw [decide_eq_false g]; simp
   ·have e:bitC (hallS b i s) f 2=bitF (bif nk' b (i:Int) 2 then orC s.2 (powC (i:Int)) else s.2) f:=rfl
    have hk':bitF s.2 f=_:=hk;rw [e];cases hc:nk' b (i:Int) 2 with
    | true=>
     rw [cond_true];unfold orC;rw [nqt',BitVec.getLsbD_or];show (bitF s.2 f||bitF (powC (i:Int)) f)=_
     rw [hk',hp];by_cases g:f=i
     ·subst g; rw [hc]; simp
     ·rw [decide_eq_false g]; simp
    | false=>
     rw [cond_false,hk'];by_cases g:f=i
     ·subst g; rw [hc]; simp
     ·rw [decide_eq_false g]; simp) (fun s _=>by
  show nf8' 32 b.D0 b.E0 b.I0 b.Q0 b.J0 b.K0 b.P0 b.A0 0 0 s.1 s.2=_;unfold nf8';rw [show decide ((32:Int) < 32)=false from rfl]; rfl) 32 0 (0,0) (by omega) ⟨nwn',fun f _ d _=>by rw [nn1']; simp⟩
 have h':=ng' h.1 (by omega)
 have hall:foldN (hallS b) 32 0 (0,0)=hallC b:=nu0' h.2.1 (n4q' b) fun f hf d hd=>by
  rw [h.2.2 f hf d hd,nsu' hb hcode hf hd,decide_eq_true hf,Bool.true_and]
 rw [hall] at h';unfold ng5';simp only [Bldg.tup] at h';rw [show nma' (((),(),(),(0:Int),()),((b.D0,b.E0,b.I0,b.Q0,b.J0,b.K0,b.P0,b.A0,()),((0:Int),(0:Int),()),((0:Int),(0:Int),()),()))=_ from h']
 rfl
def nbs' (b:Bldg) (v:View):Int×Int:=bif v.E3 then bothC (v.A3,v.T2) (hallC b) else (0,0)
theorem n8c' (b:Bldg) (v:View):u32C (nbs' b v):=by
 unfold nbs';cases v.E3
 ·exact nwn'
 ·exact ns2' _ _
theorem ntq' {b:Bldg} (hb:b.small) (hcode:b.code=0) (v:View):nij' b.D0 b.E0 b.I0 b.Q0 b.J0 b.K0 b.P0 b.A0 v.J2 v.E3 v.F3 v.J3 v.C0 v.G0 v.H3 v.A3 v.T2 v.X2 v.I2 v.Z1=some (((),()),(((nbs' b v).1,(nbs' b v).2,()),())):=by
 unfold nij' nbs';cases v.E3 with
 | false=>rfl
 | true=>
  rw [nne' hb hcode];simp only [Bool.not_true,cond_false,Option.bind_some,cond_true];rw [njc' (v.A3,v.T2) (hallC b)];rfl
theorem nrt' {c:Int×Int} (hc:u32C c):nld' c.1 c.2=some ((listC c,()),()):=by
 have h:=nz' (step:=fun x=>nl6' x.1.2.1 x.1.2.2.1 x.2.1.1 x.2.1.2.1) 32 (fun f out=>(((),out,(f:Int),()),((c.1,c.2,()),()))) (fun f out=>out++ncf' c f) (fun f out=>out.length≤2 * f) (fun out=>((out,()),())) (fun f out hf ho=>by
  have:=nsy' c f
  refine ⟨?_,by rw [List.length_append]; omega⟩
  show nl6' out (f:Int) c.1 c.2=_;unfold nl6';rw [decide_eq_true (show (f:Int) < 32 by omega),n8l' hc hf (by omega)]
  simp only [cond_true,Option.bind_some,nc' (n:=(f:Int) + 1) (by omega) (by omega)]
  rfl) (fun out _=>rfl) 32 0 [] (by omega) (by simp)
 have h':=ng' h.1 (by omega)
 rw [ngo',List.nil_append] at h';unfold nld';rw [show nk7' (((),([]:List Entry),(0:Int),()),((c.1,c.2,()),()))=_ from h']
 rfl
theorem n8u' {c:Int×Int} (h:Int→Int→Option ((Bool×Unit)×Unit)) (hh:∀ f:Nat,f < 32→∀ d:Int,(d=1∨d=2)→h (f:Int) d=some ((bitC c f d,()),())):∀ k i:Nat,i + k≤32→collO h (fun f d=>Entry.mk f d (-1) 0 false) ((List.range' i k).flatMap fun f:Nat=>[((f:Int),1),((f:Int),2)])=some ((List.range' i k).flatMap (ncf' c))
 | 0,_,_=>rfl
 | k + 1,i,hk=>by
  rw [List.range'_succ,List.flatMap_cons,List.flatMap_cons];show collO h _ (((i:Int),1) :: ((i:Int),2) :: ((List.range' (i + 1) k).flatMap fun f:Nat=>[((f:Int),1),((f:Int),2)]))=_
  simp only [collO];rw [hh i (by omega) 1 (.inl rfl),hh i (by omega) 2 (.inr rfl),n8u' h hh k (i + 1) (by omega)]
  unfold ncf';cases bitC c i 1 <;> cases bitC c i 2 <;> rfl
end Go.Ovl
