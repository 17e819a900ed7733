/- Layer 3 by the reference: the frame of inputs is written, and read. -/
import Derived.Test.YtbliagnmhfobmaaGreatOvE
import Derived.Test.YtbliagnmhfobmaaGreatOvD
import Derived.Test.YtbliagnmhfobmaaGreatOvB
import Derived.Test.YtbliagnmhfobmaaGreatOvH
namespace Go.Ovl
open Go Go.Ab
set_option maxRecDepth 100000
theorem n4z' (x:Inp) (hx:x.cars.length≤1000) {s:ByteArray} (hs:s.size≤1000):nli' (((),s,(0:Int),()),(x.tup,()))=some ((x.cars.foldl carB s,()),()):=by
 have h:=nz' (step:=fun x=>letI a:=x.2.1.2; nir' x.1.2.1 x.1.2.2.1 x.2.1.1 a.1 a.2.1 a.2.2.1 a.2.2.2.1) x.cars.length (fun i s=>(((),s,(i:Int),()),(x.tup,()))) (fun i s=>carB s (x.cars.getD i noCI)) (fun i s=>s.size≤1000 + 19 * i) (fun s=>((s,()),()))
  (fun i s hi hs=>by
   refine ⟨?_,by rw [n01']; omega⟩
   show nir' s (i:Int) x.press.1 x.press.2 x.kind x.car x.cars=_;unfold nir';rw [show CarInput.mk 0 false false false false 0 false 0 false 0 0=noCI from rfl]
   simp only [decide_eq_true (show (i:Int) < (x.cars.length:Int) by omega),na' (show (0:Int)≤(i:Int) by omega) (show (i:Int) < (x.cars.length:Int) by omega),cond_true,Int.toNat_natCast,wrapN (show i < 1000000000 by omega)]
   generalize x.cars.getD i noCI=c;refine bindI (ncc' (IntKind.u64.wrap c.Z0) (k:=4) (by omega)) ?_
   have e1:=nb0' (IntKind.u64.wrap c.Z0) 4;unfold carB;generalize nmB (IntKind.u64.wrap c.Z0) 4=a1 at e1 ⊢;show (bif Nat.ble (s.size + a1.size) 4611686018427387904 then _ else _)=_;rw [nh' (by omega),cond_true]
   refine bindI (n43' (l:=[c.V1,c.L1,c.M1,c.F1,c.L2,c.M2]) (by show 6≤100; omega)) ?_
   have e2:=nx8' [c.V1,c.L1,c.M1,c.F1,c.L2,c.M2];generalize bitsB [c.V1,c.L1,c.M1,c.F1,c.L2,c.M2]=a2 at e2 ⊢;show (bif Nat.ble ((s++a1).size + a2.size) 4611686018427387904 then _ else _)=_;rw [nh' (by rw [ByteArray.size_append]; omega),cond_true]
   refine bindI (ncc' (IntKind.u64.wrap c.R1) (k:=1) (by omega)) ?_
   have e3:=nb0' (IntKind.u64.wrap c.R1) 1;generalize nmB (IntKind.u64.wrap c.R1) 1=a3 at e3 ⊢;show (bif Nat.ble ((s++a1++a2).size + a3.size) 4611686018427387904 then _ else _)=_;rw [nh' (by simp only [ByteArray.size_append]; omega),cond_true]
   refine bindI (ncc' (IntKind.u64.wrap c.Y1) (k:=1) (by omega)) ?_
   have e4:=nb0' (IntKind.u64.wrap c.Y1) 1;generalize nmB (IntKind.u64.wrap c.Y1) 1=a4 at e4 ⊢;show (bif Nat.ble ((s++a1++a2++a3).size + a4.size) 4611686018427387904 then _ else _)=_;rw [nh' (by simp only [ByteArray.size_append]; omega),cond_true]
   refine bindI (ncc' (IntKind.u64.wrap c.N1) (k:=4) (by omega)) ?_
   have e5:=nb0' (IntKind.u64.wrap c.N1) 4;generalize nmB (IntKind.u64.wrap c.N1) 4=a5 at e5 ⊢;show (bif Nat.ble ((s++a1++a2++a3++a4).size + a5.size) 4611686018427387904 then _ else _)=_;rw [nh' (by simp only [ByteArray.size_append]; omega),cond_true]
   refine bindI (ncc' ((c.H3:Nat):Int) (k:=8) (by omega)) ?_
   have e6:=nb0' ((c.H3:Nat):Int) 8;generalize nmB ((c.H3:Nat):Int) 8=a6 at e6 ⊢;show (bif Nat.ble ((s++a1++a2++a3++a4++a5).size + a6.size) 4611686018427387904 then _ else _)=_;rw [nh' (by simp only [ByteArray.size_append]; omega)]
   rfl)
  (fun s _=>by
   show nir' s (x.cars.length:Int) x.press.1 x.press.2 x.kind x.car x.cars=_;unfold nir';rw [decide_eq_false (Int.lt_irrefl _)]; rfl) x.cars.length 0 s (by omega) (by omega)
 have h2:nli' (((),s,(0:Int),()),(x.tup,()))=_:=ng' h.1 (by omega)
 rw [h2]
 have e:∀ (l:List CarInput) (k i:Nat) (s:ByteArray),i + k=l.length→foldN (fun i s=>carB s (l.getD i noCI)) k i s=(l.drop i).foldl carB s:=by
  intro l k
  induction k with
  | zero=>intro i s hi; rw [List.drop_eq_nil_of_le (by omega)]; rfl
  | succ k ih=>
   intro i s hi;rw [nba' noCI (show i < l.length by omega),List.foldl_cons]
   exact ih (i + 1) _ (by omega)
 rw [e x.cars x.cars.length 0 s (by omega),List.drop_zero]
section
variable {b:Bldg} (hb:b.small) (hcode:b.code=0)
include hb hcode
theorem n0p' (x:Inp) (hx:x.cars.length≤1000):nqw' b.D0 b.E0 b.I0 b.Q0 b.J0 b.K0 b.P0 b.A0 x.press.1 x.press.2 x.kind x.car x.cars=some (bif isInV b x then ((inV b x,0,()),()) else ((noB,1,()),())):=by
 have hc:=nn' hcode;unfold nqw';refine bindI (n5j' hb hcode x hx) ?_;show (bif !isInV b x then _ else _)=_;cases isInV b x with
 | false=>rfl
 | true=>
 rw [Bool.not_true,cond_false,cond_true];refine bindI (ncc' 165 (k:=1) (by omega)) ?_
 refine bindI (ncc' (IntKind.u64.wrap (b.A0.length:Int)) (k:=1) (by omega)) ?_
 have hh:=nx7' b x;unfold inV;have e1:=nb0' 165 1;have e2:=nb0' (IntKind.u64.wrap (b.A0.length:Int)) 1;have e3:=nvu' x.press;have e4:=nb0' (IntKind.u64.wrap x.kind) 1;have e5:=nb0' (IntKind.u64.wrap x.car) 1;have hd:headB b x=nmB 165 1++nmB (IntKind.u64.wrap (b.A0.length:Int)) 1++nsn' x.press++nmB (IntKind.u64.wrap x.kind) 1++nmB (IntKind.u64.wrap x.car) 1:=rfl;rw [hd] at hh ⊢;generalize nmB 165 1=a1 at e1 hh ⊢;generalize nmB (IntKind.u64.wrap (b.A0.length:Int)) 1=a2 at e2 hh ⊢;show (bif Nat.ble (a1.size + a2.size) 4611686018427387904 then _ else _)=_;rw [nh' (by omega),cond_true]
 refine bindI (n4a' x.press) ?_;generalize nsn' x.press=a3 at e3 hh ⊢;show (bif Nat.ble ((a1++a2).size + a3.size) 4611686018427387904 then _ else _)=_;rw [nh' (by simp only [ByteArray.size_append]; omega),cond_true]
 refine bindI (ncc' (IntKind.u64.wrap x.kind) (k:=1) (by omega)) ?_
 generalize nmB (IntKind.u64.wrap x.kind) 1=a4 at e4 hh ⊢;show (bif Nat.ble ((a1++a2++a3).size + a4.size) 4611686018427387904 then _ else _)=_;rw [nh' (by simp only [ByteArray.size_append]; omega),cond_true]
 refine bindI (ncc' (IntKind.u64.wrap x.car) (k:=1) (by omega)) ?_
 generalize nmB (IntKind.u64.wrap x.car) 1=a5 at e5 hh ⊢;show (bif Nat.ble ((a1++a2++a3++a4).size + a5.size) 4611686018427387904 then _ else _)=_;rw [nh' (by simp only [ByteArray.size_append]; omega),cond_true]
 refine bindI (n4z' x hx (s:=a1++a2++a3++a4++a5) (by omega)) ?_
 refine bindI (nv9' (s:=x.cars.foldl carB (a1++a2++a3++a4++a5)) (by rw [nyg']; omega)) ?_
 rfl
end
def valS (s:ByteArray) (at_:Nat) (i:Nat) (n:Int):Int:=or64 n (IntKind.u64.wrap (IntKind.u64.wrap (nbj' s (at_ + i)) * 2 ^ min (8 * i) (IntKind.bits .u64)))
def valV (s:ByteArray) (at_ k:Nat):Int:=foldN (valS s at_) k 0 0
theorem nio' {s:ByteArray} {a k:Nat} (h:a + k≤s.size) (hs:s.size≤1000000):nej' s (a:Int) (k:Int)=some ((valV s a k,()),()):=by
 have h1:=nz' (step:=fun x=>nez' x.1.1 x.1.2.1 x.1.2.2.1 x.1.2.2.2.1 x.1.2.2.2.2.1) k (fun i n=>((s,(a:Int),(k:Int),n,(i:Int),()),())) (valS s a) (fun _ _=>True) (fun n=>((n,()),()))
  (fun i n hi _=>by
   refine ⟨?_,trivial⟩;show nez' s (a:Int) (k:Int) n (i:Int)=_;unfold nez';have e1:IntKind.i64.wrap ((a:Int) + (i:Int))=((a + i:Nat):Int):=by rw [nc' (by omega) (by omega)]; norm_cast
   have e2:IntKind.u64.wrap (IntKind.i64.wrap (8 * (i:Int)))=((8 * i:Nat):Int):=by
    rw [nc' (n:=8 * (i:Int)) (by omega) (by omega),ncd' (by omega) (by omega)]; norm_cast
   simp only [decide_eq_true (show (i:Int) < (k:Int) by omega),e1,e2,na' (show (0:Int)≤((a + i:Nat):Int) by omega) (show ((a + i:Nat):Int) < (s.size:Int) by omega),cond_true,Int.toNat_natCast,decide_eq_true (show (0:Int)≤((8 * i:Nat):Int) by omega),wrapN (show i < 1000000000 by omega)]
   rfl)
  (fun n _=>by
   show nez' s (a:Int) (k:Int) n (k:Int)=_;unfold nez';rw [decide_eq_false (Int.lt_irrefl (k:Int))]; rfl) k 0 0 (by omega) trivial
 have h2:nki' ((s,(a:Int),(k:Int),(0:Int),(0:Int),()),())=_:=ng' h1.1 (by omega)
 unfold nej';exact bindI h2 rfl
def setsV (s:ByteArray) (a:Nat):Int×Int:=(IntKind.u32.wrap (valV s a 4),IntKind.u32.wrap (valV s (a + 4) 4))
theorem n5d' {s:ByteArray} {a:Nat} (h:a + 8≤s.size) (hs:s.size≤1000000):npd' s (a:Int)=some (((),()),(((setsV s a).1,(setsV s a).2,()),())):=by
 have e:IntKind.i64.wrap ((a:Int) + 4)=((a + 4:Nat):Int):=by rw [nc' (by omega) (by omega)]; norm_cast
 unfold npd';refine bindI (nio' (s:=s) (a:=a) (k:=4) (by omega) hs) ?_
 rw [e];exact bindI (nio' (s:=s) (a:=a + 4) (k:=4) (by omega) hs) rfl
def bitV (s:ByteArray) (a k:Nat):Bool:=IntKind.u8.wrap (stk (Int.fdiv (nbj' s a) ((2:Int) ^ min k (IntKind.bits .u8))) 1 (BitVec.toNat ((BitVec.ofInt (IntKind.bits IntKind.u8) (Int.fdiv (nbj' s a) ((2:Int) ^ min k (IntKind.bits .u8)))) &&& (BitVec.ofInt (IntKind.bits IntKind.u8) 1))))==1
theorem ni6' {s:ByteArray} {a k:Nat} (h:a < s.size) (hk:k≤1000):nrh' s (a:Int) (k:Int)=some ((bitV s a k,()),()):=by
 unfold nrh';simp only [na' (show (0:Int)≤(a:Int) by omega) (show (a:Int) < (s.size:Int) by omega),cond_true,u64N (show k < 1000000000 by omega),decide_eq_true (show (0:Int)≤(k:Int) by omega),Int.toNat_natCast]
 rfl
def carI (s:ByteArray) (a:Nat):CarInput:=CarInput.mk (IntKind.u32.wrap (valV s a 4)) (bitV s (a + 4) 0) (bitV s (a + 4) 1) (bitV s (a + 4) 2) (bitV s (a + 4) 3) (IntKind.i64.wrap (nbj' s (a + 5))) (bitV s (a + 4) 4) (IntKind.i64.wrap (nbj' s (a + 6))) (bitV s (a + 4) 5) (IntKind.u32.wrap (valV s (a + 7) 4)) (valV s (a + 11) 8).toNat
def rawV (n:Nat) (s:ByteArray):Inp:=⟨setsV s 2,IntKind.i64.wrap (nbj' s 10),IntKind.i64.wrap (nbj' s 11),(List.range n).map fun i=>carI s (12 + 19 * i)⟩
def openR (b:Bldg) (s:ByteArray):Int:=bif (s.size:Int) != 14 + 19 * (b.A0.length:Int) then 4 else bif IntKind.i64.wrap (nbj' s 0) != 165 then 30 else bif IntKind.i64.wrap (nbj' s 1) != (b.A0.length:Int) then 30 else (openV s).2
def readI (b:Bldg) (s:ByteArray):Inp×Int:=bif openR b s != 0 then (Inp.none,openR b s) else bif isInV b (rawV b.A0.length s)&&eqB (inV b (rawV b.A0.length s)) s then (rawV b.A0.length s,0) else (Inp.none,31)
theorem n72' {b:Bldg} {s:ByteArray} (h:openR b s=0):s.size=14 + 19 * b.A0.length:=by
 unfold openR at h;cases hq:((s.size:Int) != 14 + 19 * (b.A0.length:Int)) with
 | true=>rw [hq] at h; cases h
 | false=>
  have:(s.size:Int)=14 + 19 * (b.A0.length:Int):=by simpa using hq
  omega
section
variable {b:Bldg} (hb:b.small) (hcode:b.code=0)
include hb hcode
omit hb in
theorem n5r' (s:ByteArray) (hs:s.size≤1000000):no9' b.D0 b.E0 b.I0 b.Q0 b.J0 b.K0 b.P0 b.A0 s (14 + 19 * (b.A0.length:Int)) 165=some ((openR b s,()),()):=by
 have hc:=nn' hcode;unfold no9' openR;rw [ny'];refine bindI rfl ?_;show (bif b.code != 0 then _ else _)=_;rw [hcode];show (bif (s.size:Int) != 14 + 19 * (b.A0.length:Int) then _ else _)=_;cases hq:((s.size:Int) != 14 + 19 * (b.A0.length:Int)) with
 | true=>rfl
 | false=>
 have h1:(s.size:Int)=14 + 19 * (b.A0.length:Int):=by simpa using hq
 rw [cond_false,cond_false,na' (by omega) (show (0:Int) < (s.size:Int) by omega),cond_true,show Int.toNat 0=0 from rfl]
 cases (IntKind.i64.wrap (nbj' s 0) != 165) with
 | true=>rfl
 | false=>
 rw [cond_false,cond_false,na' (by omega) (show (1:Int) < (s.size:Int) by omega),cond_true,show Int.toNat 1=1 from rfl]
 cases (IntKind.i64.wrap (nbj' s 1) != (b.A0.length:Int)) with
 | true=>rfl
 | false=>
 rw [cond_false,cond_false];exact bindI (n49' hs) rfl
omit hb in
theorem ny1' {s:ByteArray} (hs:s.size=14 + 19 * b.A0.length) (x:Inp):ni9' ((s,(),(),(),(0:Int),()),(b.tup,Inp.none.tup,({ x with cars:=[] }:Inp).tup,()))=some ((s,(),(),(),()),(b.tup,Inp.none.tup,({ x with cars:=(List.range b.A0.length).map fun i=>carI s (12 + 19 * i) }:Inp).tup,())):=by
 have hc:=nn' hcode
 have h:=nz' (step:=fun x=>letI a:=x.2.1.2.2; letI b:=x.2.2; letI c:=b.2.1; letI d:=a.2.2; letI e:=b.1.2; neq' x.1.1 x.1.2.2.2.2.1 x.2.1.1 x.2.1.2.1 a.1 a.2.1 d.1 d.2.1 d.2.2.1 d.2.2.2.1 b.1.1 e.1 e.2.1 e.2.2.1 e.2.2.2.1 c.1 c.2.1 c.2.2.1 c.2.2.2.1 c.2.2.2.2.1) b.A0.length
  (fun i l=>((s,(),(),(),(i:Int),()),(b.tup,Inp.none.tup,({ x with cars:=l }:Inp).tup,()))) (fun i l=>l++[carI s (12 + 19 * i)]) (fun i l=>l.length=i) (fun l=>((s,(),(),(),()),(b.tup,Inp.none.tup,({ x with cars:=l }:Inp).tup,())))
  (fun i l hi hl=>by
   refine ⟨?_,by rw [List.length_append,hl]; rfl⟩
   show neq' s (i:Int) b.D0 b.E0 b.I0 b.Q0 b.J0 b.K0 b.P0 b.A0 Inp.none.press.1 Inp.none.press.2 Inp.none.kind Inp.none.car Inp.none.cars x.press.1 x.press.2 x.kind x.car l=_;unfold neq'
   have e0:IntKind.i64.wrap (12 + IntKind.i64.wrap (19 * (i:Int)))=((12 + 19 * i:Nat):Int):=by
    rw [nc' (n:=19 * (i:Int)) (by omega) (by omega),nc' (by omega) (by omega)]; norm_cast
   have ea:∀ k:Nat,k≤100→IntKind.i64.wrap (((12 + 19 * i:Nat):Int) + (k:Int))=((12 + 19 * i + k:Nat):Int):=fun k hk=>by rw [nc' (by omega) (by omega)]; norm_cast
   have a4:IntKind.i64.wrap (((12 + 19 * i:Nat):Int) + 4)=((12 + 19 * i + 4:Nat):Int):=ea 4 (by omega)
   have a5:IntKind.i64.wrap (((12 + 19 * i:Nat):Int) + 5)=((12 + 19 * i + 5:Nat):Int):=ea 5 (by omega)
   have a6:IntKind.i64.wrap (((12 + 19 * i:Nat):Int) + 6)=((12 + 19 * i + 6:Nat):Int):=ea 6 (by omega)
   have a7:IntKind.i64.wrap (((12 + 19 * i:Nat):Int) + 7)=((12 + 19 * i + 7:Nat):Int):=ea 7 (by omega)
   have a11:IntKind.i64.wrap (((12 + 19 * i:Nat):Int) + 11)=((12 + 19 * i + 11:Nat):Int):=ea 11 (by omega)
   simp only [decide_eq_true (show (i:Int) < (b.A0.length:Int) by omega),cond_true,e0,a4,a5,a6,a7,a11,wrapN (show i < 1000000000 by omega)]
   have hsz:s.size≤1000000:=by omega
   refine bindI (nio' (s:=s) (a:=12 + 19 * i) (k:=4) (by omega) hsz) ?_
   refine bindI (ni6' (s:=s) (a:=12 + 19 * i + 4) (k:=0) (by omega) (by omega)) ?_
   refine bindI (ni6' (s:=s) (a:=12 + 19 * i + 4) (k:=1) (by omega) (by omega)) ?_
   refine bindI (ni6' (s:=s) (a:=12 + 19 * i + 4) (k:=2) (by omega) (by omega)) ?_
   refine bindI (ni6' (s:=s) (a:=12 + 19 * i + 4) (k:=3) (by omega) (by omega)) ?_
   rw [na' (show (0:Int)≤((12 + 19 * i + 5:Nat):Int) by omega) (show ((12 + 19 * i + 5:Nat):Int) < (s.size:Int) by omega),cond_true]
   refine bindI (ni6' (s:=s) (a:=12 + 19 * i + 4) (k:=4) (by omega) (by omega)) ?_
   rw [na' (show (0:Int)≤((12 + 19 * i + 6:Nat):Int) by omega) (show ((12 + 19 * i + 6:Nat):Int) < (s.size:Int) by omega),cond_true]
   refine bindI (ni6' (s:=s) (a:=12 + 19 * i + 4) (k:=5) (by omega) (by omega)) ?_
   refine bindI (nio' (s:=s) (a:=12 + 19 * i + 7) (k:=4) (by omega) hsz) ?_
   refine bindI (nio' (s:=s) (a:=12 + 19 * i + 11) (k:=8) (by omega) hsz) ?_
   show (bif Nat.ble (l.length + 1) 2147483648 then _ else _)=_;rw [nh' (by omega)]
   rfl)
  (fun l hl=>by
   show neq' s (b.A0.length:Int) b.D0 b.E0 b.I0 b.Q0 b.J0 b.K0 b.P0 b.A0 Inp.none.press.1 Inp.none.press.2 Inp.none.kind Inp.none.car Inp.none.cars x.press.1 x.press.2 x.kind x.car l=_;unfold neq';rw [decide_eq_false (Int.lt_irrefl _)]; rfl) b.A0.length 0 [] (by omega) rfl
 have h2:=ng' h.1 (by omega)
 have e:∀ (k i:Nat) (l:List CarInput),foldN (fun i l=>l++[carI s (12 + 19 * i)]) k i l=l++(List.range' i k).map fun i=>carI s (12 + 19 * i):=by
  intro k
  induction k with
  | zero=>intro i l; simp [foldN]
  | succ k ih=>intro i l; unfold foldN; rw [ih,List.range'_succ,List.map_cons,List.append_assoc,List.singleton_append]
 rw [e,List.nil_append,← List.range_eq_range'] at h2;exact h2
theorem n2c' (s:ByteArray) (hs:s.size≤1000000):nlv' b.D0 b.E0 b.I0 b.Q0 b.J0 b.K0 b.P0 b.A0 s=some (((),(readI b s).2,()),((readI b s).1.tup,())):=by
 have hc:=nn' hcode
 have e0:IntKind.i64.wrap (14 + IntKind.i64.wrap (19 * (b.A0.length:Int)))=14 + 19 * (b.A0.length:Int):=by
  rw [nc' (n:=19 * (b.A0.length:Int)) (by omega) (by omega),nc' (by omega) (by omega)]
 have hsz:npa' b.D0 b.E0 b.I0 b.Q0 b.J0 b.K0 b.P0 b.A0=some (((14 + 19 * (b.A0.length:Int)),IntKind.i64.wrap (23 + IntKind.i64.wrap (19 * (b.A0.length:Int))),()),()):=by
  unfold npa';rw [ny'];refine bindI rfl ?_;show (bif b.code != 0 then _ else _)=_;rw [hcode,e0]; rfl
 unfold nlv' readI;refine bindI hsz ?_;refine bindI (n5r' hcode s hs) ?_;show (bif openR b s != 0 then _ else _)=_;cases hq:(openR b s != 0) with
 | true=>rfl
 | false=>
 have ho:openR b s=0:=by simpa using hq
 have hsize:=n72' ho;rw [cond_false,cond_false];refine bindI (n5d' (s:=s) (a:=2) (by omega) hs) ?_
 rw [na' (by omega) (show (10:Int) < (s.size:Int) by omega),na' (by omega) (show (11:Int) < (s.size:Int) by omega),cond_true,cond_true]
 refine bindI (ny1' hcode hsize (rawV b.A0.length s)) ?_;have hl:(rawV b.A0.length s).cars.length≤1000:=by simp [rawV]; omega
 refine bindI (n0p' hb hcode (rawV b.A0.length s) hl) ?_;cases isInV b (rawV b.A0.length s) with
 | false=>rfl
 | true=>
  rw [cond_true,Bool.true_and];show (bif ((0:Int) != 0) then _ else bif !eqB (inV b (rawV b.A0.length s)) s then _ else _)=_;cases eqB (inV b (rawV b.A0.length s)) s <;> rfl
end
def noCO:CarOutput:=CarOutput.mk 0 0 false 0 0 false 0 0 false
def lanC (x:CarOutput):Int×Int:=(x.T1,x.H1)
def ny6' (p:Int):Bool:=p==0||p==1
def safeV (x:CarOutput):Bool:=((x.T0==0)&&((x.R0==0)&&true))||(!x.D1&&ny6' x.W0)
def nuw' (p c:Int):Bool:=c==0||(p==3||p==4)
def ndr' (x:CarOutput):Bool:=nuw' x.W0 x.D2
def trV (x:CarOutput):Bool:=x.W0==1||(x.W0==2||x.W0==3)
theorem nx1' (p:Int):niu' p=some ((ny6' p,()),()):=by
 unfold niu' ny6';cases p==0 <;> rfl
theorem nzy' (x:CarOutput):nke' x.W0 x.T0 x.R0 x.D1=some ((safeV x,()),()):=by
 unfold nke' safeV;rw [nx1'];cases ((x.T0==0)&&((x.R0==0)&&true)) <;> cases x.D1 <;> rfl
theorem n5i' (x:CarOutput):no8' x.W0 x.T0 x.R0 x.D1=some ((safeV x,()),()):=by
 unfold no8' safeV ny6';cases ((x.T0==0)&&((x.R0==0)&&true)) <;> cases x.D1 <;> cases x.W0==0 <;> rfl
theorem nvq' (p c:Int):nha' p c=some ((nuw' p c,()),()):=by
 unfold nha' nuw';cases c==0 <;> cases p==3 <;> rfl
theorem ny8' (p c:Int):nd4' p c=some ((nuw' p c,()),()):=by
 unfold nd4' nuw';cases c==0 <;> cases p==3 <;> rfl
theorem n1q' (p q:Int):np3' p q=some ((edgeB p q,()),()):=rfl
def edgeL:List T2_int:=[T2_int.mk 0 1,T2_int.mk 1 0,T2_int.mk 1 2,T2_int.mk 2 0,T2_int.mk 2 3,T2_int.mk 3 2,T2_int.mk 3 4,T2_int.mk 4 2]
theorem n5q' (p q:Int):nmg' p q=some ((edgeB p q,()),()):=by
 have h:=ng' (nkt' (step:=fun x=>ngf' x.1.1 x.1.2.1 x.1.2.2.1 x.1.2.2.2.1) edgeL (T2_int.mk 0 0) (fun z=>!((z.f0==p)&&((z.f1==q)&&true))) (fun i=>((p,q,edgeL,(i:Int),()),())) (.inl ((),())) (fun _=>.inr ((true,()),())) (fun i hi=>by
  have h8:edgeL.length=8:=rfl;show ngf' p q edgeL (i:Int)=_;unfold ngf';simp only [decide_eq_true (show (i:Int) < (edgeL.length:Int) by omega),cond_true,na' (show (0:Int)≤(i:Int) by omega) (show (i:Int) < (edgeL.length:Int) by omega),Int.toNat_natCast,wrap1 hi (show edgeL.length≤nu' by decide)]
  cases ((edgeL.getD i (T2_int.mk 0 0)).f0==p&&((edgeL.getD i (T2_int.mk 0 0)).f1==q&&true)) <;> rfl) (by
  show ngf' p q edgeL (edgeL.length:Int)=_;unfold ngf';rw [decide_eq_false (Int.lt_irrefl _),cond_false]) edgeL.length 0 (by omega)) (by decide)
 rw [List.drop_zero,nqg'] at h;unfold nmg';refine bindI h ?_
 have e:edgeL.all (fun z=>!((z.f0==p)&&((z.f1==q)&&true)))=!edgeB p q:=by
  unfold edgeL edgeB;simp only [List.all_cons,List.all_nil,Bool.and_true];have c:∀ a x:Int,(a==x)=(x==a):=fun a x=>by rw [Bool.eq_iff_iff,beq_iff_eq,beq_iff_eq]; exact eq_comm
  simp only [c _ p,c _ q];by_cases h0:p=0
  ·subst h0; simp
  by_cases h1:p=1
  ·subst h1; simp
  by_cases h2:p=2
  ·subst h2; simp
  by_cases h3:p=3
  ·subst h3; simp
  by_cases h4:p=4
  ·subst h4; simp
  ·simp only [beq_f h0,beq_f h1,beq_f h2,beq_f h3,beq_f h4]; rfl
 rw [e];cases edgeB p q <;> rfl
def litL:List CarOutput→Int×Int→Int×Int
 | [],c=>c
 | x :: t,c=>litL t (n1' c (lanC x))
def twL:List CarOutput→Int×Int→Bool
 | [],_=>false
 | x :: t,c=>!isZ (bothC c (lanC x))||twL t (n1' c (lanC x))
theorem nvp' {l:List CarOutput} (hl:l.length≤1000):ngu' l=some (((),twL l (0,0),()),(((litL l (0,0)).1,(litL l (0,0)).2,()),())):=by
 have key:∀ (k i:Nat) (tw:Bool) (c:Int×Int),i + k=l.length→iter (fun x=>letI a:=x.1.2.2; nck' a.1 a.2.1 a.2.2.1 a.2.2.2.1 x.2.1.1 x.2.1.2.1 x.2.2.1.1 x.2.2.1.2.1) (k + 1) (((),(),tw,l,(l.length:Int),(i:Int),()),((0,0,()),(c.1,c.2,()),()))=some (((),(),(tw||twL (l.drop i) c),()),((0,0,()),((litL (l.drop i) c).1,(litL (l.drop i) c).2,()),())):=by
  intro k
  induction k with
  | zero=>
   intro i tw c hi;obtain rfl:i=l.length:=by omega
   refine no' ?_;show nck' tw l (l.length:Int) (l.length:Int) 0 0 c.1 c.2=_;unfold nck';rw [decide_eq_false (Int.lt_irrefl (l.length:Int)),List.drop_length];simp only [twL,litL,Bool.or_false,cond_false]
  | succ k ih=>
   intro i tw c hi;have hi':i < l.length:=by omega
   have hs:nck' tw l (l.length:Int) (i:Int) 0 0 c.1 c.2=some (.inl (((),(),(tw||!isZ (bothC c (lanC (l.getD i noCO)))),l,(l.length:Int),((i + 1:Nat):Int),()),((0,0,()),((n1' c (lanC (l.getD i noCO))).1,(n1' c (lanC (l.getD i noCO))).2,()),()))):=by
    unfold nck';rw [show CarOutput.mk 0 0 false 0 0 false 0 0 false=noCO from rfl]
    simp only [decide_eq_true (show (i:Int) < (l.length:Int) by omega),na' (show (0:Int)≤(i:Int) by omega) (show (i:Int) < (l.length:Int) by omega),cond_true,Int.toNat_natCast]
    generalize l.getD i noCO=x;have e1:=noo' c (lanC x);have e2:=nz2' c (lanC x);have w:=wrap1 hi' (show l.length≤nu' by unfold nu'; omega)
    cases tw with
    | true=>
     rw [cond_true];refine bindI rfl ?_;refine bindI e2 ?_;rw [w]; rfl
    | false=>
     rw [cond_false];refine bindI (bindI e1 rfl) ?_;refine bindI e2 ?_;rw [w]; rfl
   rw [nv' hs,ih (i + 1) _ _ (by omega),nba' noCO hi']
   simp only [twL,litL,Bool.or_assoc]
 have h:=ng' (key l.length 0 false (0,0) (by omega)) (by omega)
 rw [List.drop_zero,Bool.false_or] at h;unfold ngu';exact bindI h rfl
theorem nzj' {l:List CarOutput} (hl:l.length≤1000):nkb' l=some ((l.all safeV,()),()):=by
 have h:=ng' (nkt' (step:=fun x=>nd0' x.1.1 x.1.2.1 x.1.2.2.1) l noCO safeV (fun i=>((l,(l.length:Int),(i:Int),()),())) (.inl ((),())) (fun _=>.inr ((false,()),())) (fun i hi=>by
  show nd0' l (l.length:Int) (i:Int)=_;unfold nd0';rw [show CarOutput.mk 0 0 false 0 0 false 0 0 false=noCO from rfl]
  simp only [decide_eq_true (show (i:Int) < (l.length:Int) by omega),cond_true,na' (show (0:Int)≤(i:Int) by omega) (show (i:Int) < (l.length:Int) by omega),Int.toNat_natCast,nzy',wrap1 hi (show l.length≤nu' by unfold nu'; omega)]
  cases safeV (l.getD i noCO) <;> rfl) (by
  show nd0' l (l.length:Int) (l.length:Int)=_;unfold nd0';rw [decide_eq_false (Int.lt_irrefl _),cond_false]) l.length 0 (by omega)) (by omega)
 rw [List.drop_zero,nqg'] at h;unfold nkb';refine bindI h ?_;cases l.all safeV <;> rfl
theorem nvo' {l:List CarOutput} (hl:l.length≤1000):ng2' l=some ((l.all ndr',()),()):=by
 have h:=ng' (nkt' (step:=fun x=>ncj' x.1.1 x.1.2.1 x.1.2.2.1) l noCO ndr' (fun i=>((l,(l.length:Int),(i:Int),()),())) (.inl ((),())) (fun _=>.inr ((false,()),())) (fun i hi=>by
  show ncj' l (l.length:Int) (i:Int)=_;unfold ncj';rw [show CarOutput.mk 0 0 false 0 0 false 0 0 false=noCO from rfl]
  simp only [decide_eq_true (show (i:Int) < (l.length:Int) by omega),cond_true,na' (show (0:Int)≤(i:Int) by omega) (show (i:Int) < (l.length:Int) by omega),Int.toNat_natCast,nvq',wrap1 hi (show l.length≤nu' by unfold nu'; omega)]
  show (bif !ndr' (l.getD i noCO) then _ else _)=_;cases ndr' (l.getD i noCO) <;> rfl) (by
  show ncj' l (l.length:Int) (l.length:Int)=_;unfold ncj';rw [decide_eq_false (Int.lt_irrefl _),cond_false]) l.length 0 (by omega)) (by omega)
 rw [List.drop_zero,nqg'] at h;unfold ng2';refine bindI h ?_;cases l.all ndr' <;> rfl
def edgO (z:CarOutput×CarOutput):Bool:=z.1.W0==z.2.W0||edgeB z.2.W0 z.1.W0
theorem n3x' {xs ps:List CarOutput} {i:Nat} (h1:i < xs.length) (h2:i < ps.length):(xs.zip ps).getD i (noCO,noCO)=(xs.getD i noCO,ps.getD i noCO):=by
 have h:i < (xs.zip ps).length:=by rw [List.length_zip]; omega
 rw [List.getD_eq_getElem?_getD,List.getElem?_eq_getElem h,List.getElem_zip];simp [List.getD_eq_getElem?_getD,h1,h2]
theorem ny7' {ps l:List CarOutput} (hl:l.length≤1000) (hp:l.length≤ps.length):njy' ps l=some (((l.zip ps).all edgO,()),()):=by
 have hz:(l.zip ps).length=l.length:=by rw [List.length_zip]; omega
 have h:=ng' (nkt' (step:=fun x=>ndu' x.1.1 x.1.2.1 x.1.2.2.1 x.1.2.2.2.1) (l.zip ps) (noCO,noCO) edgO (fun i=>((ps,l,(l.length:Int),(i:Int),()),())) (.inl ((),())) (fun _=>.inr ((false,()),())) (fun i hi=>by
  show ndu' ps l (l.length:Int) (i:Int)=_;unfold ndu';rw [show CarOutput.mk 0 0 false 0 0 false 0 0 false=noCO from rfl,n3x' (by omega) (by omega)]
  simp only [decide_eq_true (show (i:Int) < (l.length:Int) by omega),cond_true,na' (show (0:Int)≤(i:Int) by omega) (show (i:Int) < (l.length:Int) by omega),na' (show (0:Int)≤(i:Int) by omega) (show (i:Int) < (ps.length:Int) by omega),Int.toNat_natCast,n1q']
  generalize l.getD i noCO=x;generalize ps.getD i noCO=p;have w:=wrap1 (n:=l.length) (i:=i) (by omega) (show l.length≤nu' by unfold nu'; omega)
  unfold edgO;cases hq:x.W0==p.W0 with
  | true=>
   rw [show (x.W0 != p.W0)=false by rw [bne,hq]; rfl,cond_false]
   refine bindI rfl ?_;rw [cond_false,w]; rfl
  | false=>
   rw [show (x.W0 != p.W0)=true by rw [bne,hq]; rfl,cond_true]
   refine bindI rfl ?_;cases edgeB p.W0 x.W0 with
   | true=>rw [Bool.not_true,cond_false,w]; rfl
   | false=>rfl) (by
  show ndu' ps l (l.length:Int) ((l.zip ps).length:Int)=_;rw [hz];unfold ndu';rw [decide_eq_false (Int.lt_irrefl _),cond_false]) (l.zip ps).length 0 (by omega)) (by omega)
 rw [List.drop_zero,nqg'] at h;unfold njy';refine bindI h ?_;cases (l.zip ps).all edgO <;> rfl
def trN:List CarOutput→Int→Int
 | [],n=>n
 | x :: t,n=>trN t (bif trV x then n + 1 else n)
theorem nwu' {l:List CarOutput} (hl:l.length≤1000):nfo' l=some ((trN l 0,()),()):=by
 have key:∀ (k i:Nat) (n:Int),i + k=l.length→0≤n→n≤i→iter (fun x=>ncy' x.1.1 x.1.2.1 x.1.2.2.1 x.1.2.2.2.1) (k + 1) ((n,l,(l.length:Int),(i:Int),()),())=some ((trN (l.drop i) n,()),()):=by
  intro k
  induction k with
  | zero=>
   intro i n hi h0 h1;obtain rfl:i=l.length:=by omega
   refine no' ?_;show ncy' n l (l.length:Int) (l.length:Int)=_;unfold ncy';rw [decide_eq_false (Int.lt_irrefl (l.length:Int)),List.drop_length];rfl
  | succ k ih=>
   intro i n hi h0 h1;have hi':i < l.length:=by omega
   have hs:ncy' n l (l.length:Int) (i:Int)=some (.inl (((bif trV (l.getD i noCO) then n + 1 else n),l,(l.length:Int),((i + 1:Nat):Int),()),())):=by
    unfold ncy';rw [show CarOutput.mk 0 0 false 0 0 false 0 0 false=noCO from rfl]
    simp only [decide_eq_true (show (i:Int) < (l.length:Int) by omega),na' (show (0:Int)≤(i:Int) by omega) (show (i:Int) < (l.length:Int) by omega),cond_true,Int.toNat_natCast]
    generalize l.getD i noCO=x;have w:=wrap1 hi' (show l.length≤nu' by unfold nu'; omega)
    have w2:IntKind.i64.wrap (n + 1)=n + 1:=nc' (by omega) (by omega)
    unfold trV;cases x.W0==1 with
    | true=>rw [cond_true]; refine bindI rfl ?_; rw [cond_true,w,w2]; rfl
    | false=>
     cases x.W0==2 with
     | true=>rw [cond_false,cond_true]; refine bindI rfl ?_; rw [cond_true,w,w2]; rfl
     | false=>
      rw [cond_false,cond_false];refine bindI rfl ?_;cases x.W0==3 with
      | true=>rw [cond_true,w,w2]; rfl
      | false=>rw [cond_false,w]; rfl
   rw [nv' hs,ih (i + 1) _ (by omega) (by cases trV (l.getD i noCO) <;> simp <;> omega) (by cases trV (l.getD i noCO) <;> simp <;> omega),nba' noCO hi']
   rfl
 have h:=ng' (key l.length 0 0 (by omega) (by omega) (by omega)) (by omega)
 rw [List.drop_zero] at h;unfold nfo';exact bindI h rfl
def lampC (x:Outputs):Int×Int:=(x.I1,x.A1)
def servC (x:Outputs):Int×Int:=(x.B1,x.X0)
def nfn' (a c:Int×Int):Bool:=(a.1==c.1)&&((a.2==c.2)&&true)
def seenP (n:Nat) (p x:Outputs):Int:=
 bif twL (x.A0.take p.A0.length) (0,0) then 1 else
 bif !(x.A0.take p.A0.length).all safeV then 2 else
 bif !(x.A0.take p.A0.length).all ndr' then 3 else
 bif !((x.A0.take p.A0.length).zip p.A0).all edgO||!decide (p.A0.length=n∧x.A0.length=n) then 4 else
 bif !isZ (nr' (servC x) (lampC p))||!isZ (nr' (servC x) (litL (x.A0.take p.A0.length) (0,0))) then 6 else
 bif !isZ (nr' (nr' (lampC p) (lampC x)) (servC x))||!isZ (bothC (lampC p) (bothC (lampC x) (servC x))) then 5 else
 bif x.D3&&(!nfn' (lampC x) (lampC p)||!isZ (servC x)) then 7 else
 bif decide (1 < trN x.A0 0) then 8 else 0
theorem nbd2' {α:Type} (l:List α) (k:Nat):l.take (min k l.length)=l.take k:=by
 rcases Nat.le_total k l.length with h | h
 ·rw [Nat.min_eq_left h]
 ·rw [Nat.min_eq_right h,List.take_length,List.take_of_length_le h]
theorem nqo' (b:Bldg) {p x:Outputs} (hp:p.A0.length≤1000) (hx:x.A0.length≤1000):nbb' b.D0 b.E0 b.I0 b.Q0 b.J0 b.K0 b.P0 b.A0 p.I1 p.A1 p.B1 p.X0 p.D3 p.K0 p.C2 p.A0 x.I1 x.A1 x.B1 x.X0 x.D3 x.K0 x.C2 x.A0=some ((seenP b.A0.length p x,()),()):=by
 have hmin:(bif decide ((x.A0.length:Int) < (p.A0.length:Int)) then (x.A0.length:Int) else (p.A0.length:Int))=((min p.A0.length x.A0.length:Nat):Int):=by
  by_cases h:x.A0.length < p.A0.length
  ·rw [decide_eq_true (show (x.A0.length:Int) < (p.A0.length:Int) by omega),cond_true]; omega
  ·rw [decide_eq_false (show ¬ (x.A0.length:Int) < (p.A0.length:Int) by omega),cond_false]; omega
 have ht:=nbd2' x.A0 p.A0.length;have hlt:(x.A0.take p.A0.length).length=min p.A0.length x.A0.length:=List.length_take;unfold nbb';simp only [hmin,Int.toNat_natCast,List.drop_zero,ht];rw [decide_eq_true (show (0:Int)≤((min p.A0.length x.A0.length:Nat):Int) by omega),decide_eq_true (show ((min p.A0.length x.A0.length:Nat):Int)≤((x.A0.length:Nat):Int) by omega),Bool.and_self,cond_true]
 unfold seenP;generalize hxs:x.A0.take p.A0.length=xs at hlt ⊢;refine bindI (nvp' (l:=xs) (by omega)) ?_
 refine bindI (nja' (lampC p) (lampC x)) ?_;show (bif twL xs (0,0) then _ else _)=_;cases twL xs (0,0) with
 | true=>rfl
 | false=>
 rw [cond_false,cond_false];refine bindI (nzj' (l:=xs) (by omega)) ?_
 show (bif !xs.all safeV then _ else _)=_;cases xs.all safeV with
 | false=>rfl
 | true=>
 rw [Bool.not_true,cond_false,cond_false];refine bindI (nvo' (l:=xs) (by omega)) ?_
 show (bif !xs.all ndr' then _ else _)=_;cases xs.all ndr' with
 | false=>rfl
 | true=>
 rw [Bool.not_true,cond_false,cond_false];refine bindI (ny7' (ps:=p.A0) (l:=xs) (by omega) (by omega)) ?_
 show (bif !(xs.zip p.A0).all edgO then _ else _)=_;cases (xs.zip p.A0).all edgO with
 | false=>rfl
 | true=>
 rw [Bool.not_true,cond_false,Bool.false_or]
 have hq:∀ a c:Nat,((a:Int) != (c:Int))=!decide (a=c):=fun a c=>by
  by_cases h:a=c
  ·subst h; simp
  ·rw [bne_t (show ¬ (a:Int)=(c:Int) by omega),decide_eq_false h]; rfl
 rw [hq,hq,hq];by_cases hn:p.A0.length=b.A0.length∧x.A0.length=b.A0.length
 ·obtain ⟨n1,n2⟩:=hn
  have hm:min p.A0.length x.A0.length=b.A0.length:=by omega
  rw [decide_eq_true (show p.A0.length=b.A0.length∧x.A0.length=b.A0.length from ⟨n1,n2⟩),hm,n1,n2,decide_eq_true rfl]
  simp only [Bool.not_true,cond_false];refine bindI (nja' (servC x) (lampC p)) ?_;refine bindI (show nbp' _ _=some ((isZ (nr' (servC x) (lampC p)),()),()) from rfl) ?_
  show (bif !isZ (nr' (servC x) (lampC p)) then _ else _)=_;cases isZ (nr' (servC x) (lampC p)) with
  | false=>rfl
  | true=>
  rw [Bool.not_true,cond_false,Bool.false_or];refine bindI (nja' (servC x) (litL xs (0,0))) ?_;refine bindI (show nbp' _ _=some ((isZ (nr' (servC x) (litL xs (0,0))),()),()) from rfl) ?_
  show (bif !isZ (nr' (servC x) (litL xs (0,0))) then _ else _)=_;cases isZ (nr' (servC x) (litL xs (0,0))) with
  | false=>rfl
  | true=>
  rw [Bool.not_true,cond_false,cond_false];refine bindI (nja' (nr' (lampC p) (lampC x)) (servC x)) ?_;refine bindI (show nbp' _ _=some ((isZ (nr' (nr' (lampC p) (lampC x)) (servC x)),()),()) from rfl) ?_
  show (bif !isZ (nr' (nr' (lampC p) (lampC x)) (servC x)) then _ else _)=_;cases isZ (nr' (nr' (lampC p) (lampC x)) (servC x)) with
  | false=>rfl
  | true=>
  rw [Bool.not_true,cond_false,Bool.false_or];refine bindI (noo' (lampC x) (servC x)) ?_;refine bindI (noo' (lampC p) (bothC (lampC x) (servC x))) ?_;refine bindI (show nbp' _ _=some ((isZ (bothC (lampC p) (bothC (lampC x) (servC x))),()),()) from rfl) ?_
  show (bif !isZ (bothC (lampC p) (bothC (lampC x) (servC x))) then _ else _)=_;cases isZ (bothC (lampC p) (bothC (lampC x) (servC x))) with
  | false=>rfl
  | true=>
  rw [Bool.not_true,cond_false,cond_false]
  have fin:∀ bd:Bool,(bif bd then (some (((7:Int),()),()):Option ((Int×Unit)×Unit)) else (nfo' x.A0).bind fun y17=>bif decide ((1:Int) < y17.1.1) then some (((8:Int),()),()) else some (((0:Int),()),()))=some (((bif bd then 7 else bif decide (1 < trN x.A0 0) then 8 else 0),()),()):=by
   intro bd;cases bd with
   | true=>rfl
   | false=>
    rw [cond_false,cond_false];refine bindI (nwu' hx) ?_;cases decide ((1:Int) < trN x.A0 0) <;> rfl
  have e7:nbp' x.B1 x.X0=some ((isZ (servC x),()),()):=rfl;cases hb:x.D3 with
  | false=>rw [cond_false]; refine bindI rfl ?_; exact fin false
  | true=>
   rw [cond_true,Bool.true_and];show Option.bind (bif !nfn' (lampC x) (lampC p) then _ else _) _=_;cases nfn' (lampC x) (lampC p) with
   | false=>refine bindI rfl ?_; exact fin true
   | true=>
    rw [Bool.not_true,cond_false,Bool.false_or];refine bindI (bindI e7 rfl) ?_;exact fin (!isZ (servC x))
 ·rw [decide_eq_false hn,Bool.not_false,cond_true]
  by_cases n1:p.A0.length=min p.A0.length x.A0.length
  ·by_cases n2:x.A0.length=min p.A0.length x.A0.length
   ·rw [decide_eq_true n1,decide_eq_true n2,decide_eq_false (show ¬ b.A0.length=min p.A0.length x.A0.length by omega)]; rfl
   ·rw [decide_eq_true n1,decide_eq_false n2]; rfl
  ·rw [decide_eq_false n1]; rfl
structure Tk where
 m:Mch
 shows:List Calls
 was:List Int
 cmds:List Int
 budget:Int
 e:Int
 out:Outputs
def Tk.tup (b:Bldg) (x:Inp) (g:Bool) (t:Tk):Int×Int×Int×Int×Nat×Nat×Nat×List Car×List Int×List Bool×List Bool×List Entry×ByteArray×ByteArray×Int×List Debounced×List Belief×List NewCar×List Loaded×List Int×List Calls×Int×Int×Int×Int×Int×Int×Int×List CarInput×Bool×List Calls×List Int×List Int×Int×Int×Int×Int×Int×Int×Bool×Bool×Int×List CarOutput×Unit:=(b.D0,b.E0,b.I0,b.Q0,b.J0,b.K0,b.P0,b.A0,t.m.L0.F0,t.m.L0.N0,t.m.L0.H0,t.m.L0.B0,t.m.Y0.h0,t.m.Y0.h1,t.m.Y0.sel,t.m.C1,t.m.S0,t.m.A0,t.m.A2,t.m.J1,t.m.B3,t.m.I3,t.m.Q2,t.m.E2,x.press.1,x.press.2,x.kind,x.car,x.cars,g,t.shows,t.was,t.cmds,t.budget,t.e,t.out.I1,t.out.A1,t.out.B1,t.out.X0,t.out.D3,t.out.K0,t.out.C2,t.out.A0,())
def Tk.wr (t:Tk) (im:Img) (s:Sto) (bu e:Int):Tk:={ t with m:={ t.m with L0:=im,Y0:=s },budget:=bu,e:=e }
structure TI (b:Bldg) (t:Tk):Prop where
 img:ImgOK b t.m.L0
 con:t.m.C1.length=b.A0.length
 bel:t.m.S0.length=b.A0.length
 beld:∀ x ∈ t.m.S0,x.M0.length≤1000
 car:t.m.A0.length=b.A0.length
 caru:∀ x ∈ t.m.A0,ucR x.N1
 lod:t.m.A2.length=b.A0.length
 lit:t.m.B3.length=b.A0.length
 exl:t.m.J1.length=t.m.L0.B0.length
 exv:∀ x ∈ t.m.J1,0≤x∧x≤1000000
 bud:t.budget < 9223372036854775808
 oc:t.out.A0=[]
 su:u32C (servC t.out)
structure TL (b:Bldg) (t:Tk):Prop where
 shows:t.shows.length=b.A0.length
 was:t.was.length=b.A0.length
 cmds:t.cmds.length=b.A0.length
theorem nz1' {α:Type} {P:α→Prop} {l:List α} (h:∀ x ∈ l,P x) {v:α} (hv:P v) (i:Nat):∀ x ∈ l.set i v,P x:=fun x hx=>by
 rcases List.mem_or_eq_of_mem_set hx with hx | rfl
 ·exact h x hx
 ·exact hv
def Tk.sBel (t:Tk) (i:Nat) (v:Belief):Tk:={ t with m:={ t.m with S0:=t.m.S0.set i v } }
def Tk.sCar (t:Tk) (i:Nat) (v:NewCar) (c:Int):Tk:={ t with m:={ t.m with A0:=t.m.A0.set i v },cmds:=t.cmds.set i c }
def Tk.sShow (t:Tk) (i:Nat) (c:Calls):Tk:={ t with shows:=t.shows.set i c }
theorem TI.sBel {b:Bldg} {t:Tk} (h:TI b t) (i:Nat) {v:Belief} (hv:v.M0.length≤1000):TI b (t.sBel i v):=
 ⟨h.img,h.con,by show (t.m.S0.set i v).length=_; rw [List.length_set]; exact h.bel,nz1' h.beld hv i,h.car,h.caru,h.lod,h.lit,h.exl,h.exv,h.bud,h.oc,h.su⟩
theorem TI.sCar {b:Bldg} {t:Tk} (h:TI b t) (i:Nat) {v:NewCar} (hv:ucR v.N1) (c:Int):TI b (t.sCar i v c):=
 ⟨h.img,h.con,h.bel,h.beld,by show (t.m.A0.set i v).length=_; rw [List.length_set]; exact h.car,nz1' h.caru hv i,h.lod,h.lit,h.exl,h.exv,h.bud,h.oc,h.su⟩
theorem TI.sShow {b:Bldg} {t:Tk} (h:TI b t) (i:Nat) (c:Calls):TI b (t.sShow i c):=⟨h.img,h.con,h.bel,h.beld,h.car,h.caru,h.lod,h.lit,h.exl,h.exv,h.bud,h.oc,h.su⟩
theorem TL.sBel {b:Bldg} {t:Tk} (h:TL b t) (i:Nat) (v:Belief):TL b (t.sBel i v):=⟨h.shows,h.was,h.cmds⟩
theorem TL.sCar {b:Bldg} {t:Tk} (h:TL b t) (i:Nat) (v:NewCar) (c:Int):TL b (t.sCar i v c):=⟨h.shows,h.was,by show (t.cmds.set i c).length=_; rw [List.length_set]; exact h.cmds⟩
theorem TL.sShow {b:Bldg} {t:Tk} (h:TL b t) (i:Nat) (c:Calls):TL b (t.sShow i c):=⟨by show (t.shows.set i c).length=_; rw [List.length_set]; exact h.shows,h.was,h.cmds⟩
theorem n5o' (b:Bldg) (s:Sto) (m:Img) {bud:Int} (hb:bud < 9223372036854775808):(nce' b s m bud).2.1 < 9223372036854775808:=by
 have z:((Sto.no,(0:Int),(1:Int)):Sto×Int×Int).2.1 < 9223372036854775808:=show (0:Int) < 9223372036854775808 from by decide
 have h1:=nzq' b.I0 s (1 - s.sel) bud (s.set (1 - s.sel) noB) hb;unfold nce' Sto.erase;generalize s.act b.I0 (1 - s.sel) bud (s.set (1 - s.sel) noB)=r1 at h1;have h2:=nun' b.I0 r1.1 (1 - s.sel) (txt ((snapV m).flatMap encL)) r1.2.1 h1;generalize r1.1.write b.I0 (1 - s.sel) (txt ((snapV m).flatMap encL)) r1.2.1=r2 at h2;cases decide (s.ok b.I0) <;> cases decide (bud < 0) <;> cases m.ok b <;> try exact z
 show (bif r1.2.2==0 then (bif r2.2.2==0 then r2.1.choose b.I0 (1 - s.sel) r2.2.1 else r2) else r1).2.1 < _;cases r1.2.2==0
 ·exact h1
 ·cases r2.2.2==0
  ·exact h2
  ·exact nzq' _ _ _ _ _ h2
theorem n8q' (b:Bldg) (s:Sto) (m:Img) (r:Record) {bud:Int} (hb:bud < 9223372036854775808):(ndg' b s m r bud).2.2.1 < 9223372036854775808:=by
 have z:(0:Int) < 9223372036854775808:=by decide
 have hp:(putV b s m r bud).2.1 < 9223372036854775808:=by
  unfold putV;cases decide ((6:Int)≤b.I0 - (s.cur.size:Int)) with
  | true=>exact nun' _ _ _ _ _ hb
  | false=>exact n5o' _ _ _ hb
 unfold ndg';generalize putV b s m r bud=w at hp;cases !(m.ok b&&np' b r) <;> cases !(decide (s.ok b.I0)) <;> cases decide (bud < 0) <;> cases fullV b m r <;> try exact z
 cases w.2.2==0
 ·cases w.2.2==8 <;> exact z
 ·exact hp
theorem n92' {b:Bldg} {s:Sto} {m:Img} {r:Record} {bud:Int} (h:(ndg' b s m r bud).2.2.2=0):np' b r=true∧(ndg' b s m r bud).2.1=n4' m r:=by
 unfold ndg' at h ⊢;generalize putV b s m r bud=w at h ⊢;cases hv:m.ok b&&np' b r with
 | false=>rw [hv] at h; exact absurd (show (1:Int)=0 from h) (by decide)
 | true=>
  rw [hv] at h;refine ⟨(Bool.and_eq_true_iff.1 hv).2,?_⟩;cases h1:decide (s.ok b.I0) with
  | false=>rw [h1] at h; exact absurd (show (1:Int)=0 from h) (by decide)
  | true=>
   rw [h1] at h;cases h2:decide (bud < 0) with
   | true=>rw [h2] at h; exact absurd (show (1:Int)=0 from h) (by decide)
   | false=>
    rw [h2] at h;cases h3:fullV b m r with
    | true=>rw [h3] at h; exact absurd (show (7:Int)=0 from h) (by decide)
    | false=>
     rw [h3] at h;cases h4:w.2.2==0 with
     | true=>rfl
     | false=>
      rw [h4] at h
      have h5:w.2.2=0:=by
       cases h5:w.2.2==8 with
       | true=>rw [h5] at h; exact h
       | false=>rw [h5] at h; exact h
      rw [h5] at h4;exact absurd h4 (by decide)
theorem n8a' {m:Img} {r:Record} (h:r.U0=4∨r.U0=5∨r.U0=6):(n4' m r).B0=m.B0:=by
 unfold n4';rcases h with h | h | h <;> rw [h] <;> rfl
section
variable {b:Bldg} (hb:b.small) (hcode:b.code=0) (hld:b.loads) {x:Inp} {g:Bool} (hx:g=true→x.cars.length=b.A0.length∧0≤x.car∧x.car < (b.A0.length:Int))
include hb hcode in
theorem ntd' {t:Tk} (hi:ImgOK b t.m.L0) (hbud:t.budget < 9223372036854775808) (l:List Record) (hl:l.length≤100000):Sat (n0' l b.D0 b.E0 b.I0 b.Q0 b.J0 b.K0 b.P0 b.A0 t.m.L0.F0 t.m.L0.N0 t.m.L0.H0 t.m.L0.B0 t.m.Y0.h0 t.m.Y0.h1 t.m.Y0.sel t.m.C1 t.m.S0 t.m.A0 t.m.A2 t.m.J1 t.m.B3 t.m.I3 t.m.Q2 t.m.E2 x.press.1 x.press.2 x.kind x.car x.cars g t.shows t.was t.cmds t.budget t.e t.out.I1 t.out.A1 t.out.B1 t.out.X0 t.out.D3 t.out.K0 t.out.C2 t.out.A0) fun y=>∃ im s bu e,y=((),((t.wr im s bu e).tup b x g,()))∧ImgOK b im∧bu < 9223372036854775808∧(K456 l→im.B0=t.m.L0.B0):=by
 have hc:=nn' hcode;unfold n0';refine Sat.bindS (Q:=fun y=>∃ im s bu e,y=((),((t.wr im s bu e).tup b x g,()))∧ImgOK b im∧bu < 9223372036854775808∧(K456 l→im.B0=t.m.L0.B0)) ?_ fun y hy=>?_
 ·refine Sat.loop (fun (k:Nat) z=>∃ (im:Img) (s:Sto) (bu e:Int) (i:Nat),z=(((),l,(i:Int),()),((t.wr im s bu e).tup b x g,()))∧ImgOK b im∧bu < 9223372036854775808∧(K456 l→im.B0=t.m.L0.B0)∧i + k=l.length) (fun k z hz=>?_) l.length ⟨t.m.L0,t.m.Y0,t.budget,t.e,0,rfl,hi,hbud,fun _=>rfl,Nat.zero_add _⟩ (by omega)
  obtain ⟨im,s,bu,e,i,rfl,h1,h2,h3,hk⟩:=hz;unfold ngs';have fin:∃ im' s' bu' e',(((),((t.wr im s bu e).tup b x g,())):Unit×_×Unit)=((),((t.wr im' s' bu' e').tup b x g,()))∧ImgOK b im'∧bu' < 9223372036854775808∧(K456 l→im'.B0=t.m.L0.B0):=⟨im,s,bu,e,rfl,h1,h2,h3⟩;refine Sat.bif (fun gg=>Sat.bif (fun _=>?_) fun _=>Sat.ret fin) fun _=>Sat.ret fin
  have gg:(i:Int) < (l.length:Int):=of_decide_eq_true gg;have w:=wrapN (n:=i) (by omega)
  have he:=nbf' hb h1;have hp:=h1.lp;have hr:=n1z' hb hcode s (m:=im) (by omega) (by omega) (l.getD i (Record.mk 0 0 0 0 0)) (bud:=bu) h2
  refine Sat.bifT (na' (show (0:Int)≤(i:Int) by omega) gg) (Sat.bindE hr ?_)
  have hab:=n8q' b s im (l.getD i (Record.mk 0 0 0 0 0)) h2;refine Sat.bif (fun hz=>?_) fun _=>?_
  ·have hz:(ndg' b s im (l.getD i (Record.mk 0 0 0 0 0)) bu).2.2.2=0:=eq_of_beq hz
   obtain ⟨hv,hap⟩:=n92' hz;have hap2:=(ngq' h1 hv).1;rw [← hap] at hap2;refine Sat.ret ⟨k - 1,by omega,(ndg' b s im (l.getD i (Record.mk 0 0 0 0 0)) bu).2.1,(ndg' b s im (l.getD i (Record.mk 0 0 0 0 0)) bu).1,(ndg' b s im (l.getD i (Record.mk 0 0 0 0 0)) bu).2.2.1,(ndg' b s im (l.getD i (Record.mk 0 0 0 0 0)) bu).2.2.2,i + 1,?_,hap2,hab,fun hK=>?_,by omega⟩
   ·first | (rw [← w]; rfl) | rw [← w]
   ·rw [hap,n8a' (hK _ (n5' _ (by omega)))]; exact h3 hK
  ·refine Sat.ret ⟨k - 1,by omega,im,(ndg' b s im (l.getD i (Record.mk 0 0 0 0 0)) bu).1,(ndg' b s im (l.getD i (Record.mk 0 0 0 0 0)) bu).2.2.1,(ndg' b s im (l.getD i (Record.mk 0 0 0 0 0)) bu).2.2.2,i + 1,?_,h1,hab,h3,by omega⟩
   first | (rw [← w]; rfl) | rw [← w]
 ·obtain ⟨im,s,bu,e,rfl,h⟩:=hy
  exact Sat.ret ⟨im,s,bu,e,rfl,h⟩
end
theorem npm' (n:Int):Sat (ngx' n) fun _=>True:=by
 unfold ngx';exact Sat.go
theorem nca' (n:Int):Sat (n6' n) fun _=>True:=by
 unfold n6';exact Sat.go
theorem nb1' (n:Int):Sat (n9' n) fun _=>True:=by
 unfold n9';exact Sat.go
instance r27_more_ti (n:Int):SatT (ngx' n):=⟨npm' ..⟩
instance r27_relayed_ti (n:Int):SatT (n6' n):=⟨nca' ..⟩
instance r27_driven_ti (n:Int):SatT (n9' n):=⟨nb1' ..⟩
def Tk.tick (t:Tk) (n:Int):Tk:={ t with m:={ t.m with I3:=n } }
def Tk.flt (t:Tk) (n:Int):Tk:={ t with m:={ t.m with Q2:=n } }
def Tk.conl (t:Tk) (c:List Debounced) (l:List Loaded):Tk:={ t with m:={ t.m with C1:=c,A2:=l } }
def nry':NewCar:=NewCar.mk 0 0 0 0 0 false 0 0 0 0 0 0 0 false
def noBlf:Belief:=Belief.mk 0 0 0 [] 0 false
section
variable {b:Bldg} (hb:b.small) (hcode:b.code=0) (hld:b.loads) {x:Inp} {g:Bool} (hx:g=true→x.cars.length=b.A0.length)
include hcode hld hx in
theorem nbfh' {t:Tk} (hi:TI b t):Sat (ncu' b.D0 b.E0 b.I0 b.Q0 b.J0 b.K0 b.P0 b.A0 t.m.L0.F0 t.m.L0.N0 t.m.L0.H0 t.m.L0.B0 t.m.Y0.h0 t.m.Y0.h1 t.m.Y0.sel t.m.C1 t.m.S0 t.m.A0 t.m.A2 t.m.J1 t.m.B3 t.m.I3 t.m.Q2 t.m.E2 x.press.1 x.press.2 x.kind x.car x.cars g t.shows t.was t.cmds t.budget t.e t.out.I1 t.out.A1 t.out.B1 t.out.X0 t.out.D3 t.out.K0 t.out.C2 t.out.A0) fun y=>∃ t',(y=.inl ((),(t'.tup b x g,()))∨y=.inr ((),(t'.tup b x g,())))∧TI b t':=by
 have hc:=nn' hcode;unfold ncu';refine Sat.bindS (npm' _) fun n1 _=>Sat.bif (fun _=>?_) fun hg=>?_
 ·exact Sat.bindS (npm' _) fun n2 _=>Sat.ret ⟨(t.tick n1.1.1).flt n2.1.1,.inl rfl,⟨hi.img,hi.con,hi.bel,hi.beld,hi.car,hi.caru,hi.lod,hi.lit,hi.exl,hi.exv,hi.bud,hi.oc,hi.su⟩⟩
 ·rw [Bool.not_eq_false'] at hg
  have hxl:=hx hg;refine Sat.bindS (Q:=fun y=>∃ t',y=((),(t'.tup b x g,()))∧TI b t') ?_ fun y hy=>by obtain ⟨t',rfl,h⟩:=hy; exact Sat.ret ⟨t',.inr rfl,h⟩
  refine Sat.loop (fun (k:Nat) z=>∃ (t':Tk) (i:Nat),z=(((),(i:Int),()),(t'.tup b x g,()))∧TI b t'∧i + k=b.A0.length) (fun k z hz=>?_) b.A0.length ⟨t.tick n1.1.1,0,rfl,⟨hi.img,hi.con,hi.bel,hi.beld,hi.car,hi.caru,hi.lod,hi.lit,hi.exl,hi.exv,hi.bud,hi.oc,hi.su⟩,Nat.zero_add _⟩ (by omega)
  obtain ⟨t',i,rfl,hi,hk⟩:=hz;unfold nhg';refine Sat.bif (fun gg=>?_) fun _=>Sat.ret ⟨t',rfl,hi⟩
  have gg:(i:Int) < (b.A0.length:Int):=of_decide_eq_true gg;have w:=wrapN (n:=i) (by omega)
  have i1:inB (i:Int) t'.m.C1.length=true:=na' (by omega) (by rw [hi.con]; exact gg)
  have i2:inB (i:Int) x.cars.length=true:=na' (by omega) (by rw [hxl]; exact gg)
  have i3:inB (i:Int) t'.m.A2.length=true:=na' (by omega) (by rw [hi.lod]; exact gg)
  refine Sat.bifT i1 (Sat.bifT i2 (Sat.bindS (n7g' _ _ _ _ _ _ _) fun y1 _=>?_))
  refine Sat.bifT i1 (Sat.bifT i3 (Sat.bifT i2 (Sat.bindS (n8i' hld _ _) fun y2 _=>Sat.bifT i3 ?_)))
  refine Sat.ret ⟨k - 1,by omega,t'.conl (t'.m.C1.set i (Debounced.mk y1.2.1.1 y1.2.1.2.1 y1.2.1.2.2.1 y1.2.1.2.2.2.1 y1.2.1.2.2.2.2.1 y1.2.1.2.2.2.2.2.1 y1.2.1.2.2.2.2.2.2.1 y1.2.1.2.2.2.2.2.2.2.1 y1.2.1.2.2.2.2.2.2.2.2.1 y1.2.1.2.2.2.2.2.2.2.2.2.1 y1.2.1.2.2.2.2.2.2.2.2.2.2.1 y1.2.1.2.2.2.2.2.2.2.2.2.2.2.1 y1.2.1.2.2.2.2.2.2.2.2.2.2.2.2.1 y1.2.1.2.2.2.2.2.2.2.2.2.2.2.2.2.1 y1.2.1.2.2.2.2.2.2.2.2.2.2.2.2.2.2.1 y1.2.1.2.2.2.2.2.2.2.2.2.2.2.2.2.2.2.1 y1.2.1.2.2.2.2.2.2.2.2.2.2.2.2.2.2.2.2.1 y1.2.1.2.2.2.2.2.2.2.2.2.2.2.2.2.2.2.2.2.1 y1.2.1.2.2.2.2.2.2.2.2.2.2.2.2.2.2.2.2.2.2.1 y1.2.1.2.2.2.2.2.2.2.2.2.2.2.2.2.2.2.2.2.2.2.1 y1.2.1.2.2.2.2.2.2.2.2.2.2.2.2.2.2.2.2.2.2.2.2.1 y1.2.1.2.2.2.2.2.2.2.2.2.2.2.2.2.2.2.2.2.2.2.2.2.1 y1.2.1.2.2.2.2.2.2.2.2.2.2.2.2.2.2.2.2.2.2.2.2.2.2.1 y1.2.1.2.2.2.2.2.2.2.2.2.2.2.2.2.2.2.2.2.2.2.2.2.2.2.1 y1.2.1.2.2.2.2.2.2.2.2.2.2.2.2.2.2.2.2.2.2.2.2.2.2.2.2.1 y1.2.1.2.2.2.2.2.2.2.2.2.2.2.2.2.2.2.2.2.2.2.2.2.2.2.2.2.1 y1.2.1.2.2.2.2.2.2.2.2.2.2.2.2.2.2.2.2.2.2.2.2.2.2.2.2.2.2.1 y1.2.1.2.2.2.2.2.2.2.2.2.2.2.2.2.2.2.2.2.2.2.2.2.2.2.2.2.2.2.1 y1.2.1.2.2.2.2.2.2.2.2.2.2.2.2.2.2.2.2.2.2.2.2.2.2.2.2.2.2.2.2.1 y1.2.1.2.2.2.2.2.2.2.2.2.2.2.2.2.2.2.2.2.2.2.2.2.2.2.2.2.2.2.2.2.1 y1.2.1.2.2.2.2.2.2.2.2.2.2.2.2.2.2.2.2.2.2.2.2.2.2.2.2.2.2.2.2.2.2.1 y1.2.1.2.2.2.2.2.2.2.2.2.2.2.2.2.2.2.2.2.2.2.2.2.2.2.2.2.2.2.2.2.2.2.1 y1.2.1.2.2.2.2.2.2.2.2.2.2.2.2.2.2.2.2.2.2.2.2.2.2.2.2.2.2.2.2.2.2.2.2.1 y1.2.1.2.2.2.2.2.2.2.2.2.2.2.2.2.2.2.2.2.2.2.2.2.2.2.2.2.2.2.2.2.2.2.2.2.1 y1.2.1.2.2.2.2.2.2.2.2.2.2.2.2.2.2.2.2.2.2.2.2.2.2.2.2.2.2.2.2.2.2.2.2.2.2.1 y1.2.1.2.2.2.2.2.2.2.2.2.2.2.2.2.2.2.2.2.2.2.2.2.2.2.2.2.2.2.2.2.2.2.2.2.2.2.1 y1.2.1.2.2.2.2.2.2.2.2.2.2.2.2.2.2.2.2.2.2.2.2.2.2.2.2.2.2.2.2.2.2.2.2.2.2.2.2.1 y1.2.1.2.2.2.2.2.2.2.2.2.2.2.2.2.2.2.2.2.2.2.2.2.2.2.2.2.2.2.2.2.2.2.2.2.2.2.2.2.1 y1.2.1.2.2.2.2.2.2.2.2.2.2.2.2.2.2.2.2.2.2.2.2.2.2.2.2.2.2.2.2.2.2.2.2.2.2.2.2.2.2.1 y1.2.1.2.2.2.2.2.2.2.2.2.2.2.2.2.2.2.2.2.2.2.2.2.2.2.2.2.2.2.2.2.2.2.2.2.2.2.2.2.2.2.1 y1.2.1.2.2.2.2.2.2.2.2.2.2.2.2.2.2.2.2.2.2.2.2.2.2.2.2.2.2.2.2.2.2.2.2.2.2.2.2.2.2.2.2.1)) (t'.m.A2.set i (Loaded.mk y2.2.1.1)),i + 1,?_,⟨hi.img,?_,hi.bel,hi.beld,hi.car,hi.caru,?_,hi.lit,hi.exl,hi.exv,hi.bud,hi.oc,hi.su⟩,by omega⟩
  ·first | (rw [← w]; rfl) | rw [← w]
  ·show (t'.m.C1.set i _).length=_; rw [List.length_set]; exact hi.con
  ·show (t'.m.A2.set i _).length=_; rw [List.length_set]; exact hi.lod
include hb hcode hx in
theorem nbff' {t:Tk} (hi:TI b t):Sat (ncs' b.D0 b.E0 b.I0 b.Q0 b.J0 b.K0 b.P0 b.A0 t.m.L0.F0 t.m.L0.N0 t.m.L0.H0 t.m.L0.B0 t.m.Y0.h0 t.m.Y0.h1 t.m.Y0.sel t.m.C1 t.m.S0 t.m.A0 t.m.A2 t.m.J1 t.m.B3 t.m.I3 t.m.Q2 t.m.E2 x.press.1 x.press.2 x.kind x.car x.cars g t.shows t.was t.cmds t.budget t.e t.out.I1 t.out.A1 t.out.B1 t.out.X0 t.out.D3 t.out.K0 t.out.C2 t.out.A0) fun y=>∃ t',y=((),(t'.tup b x g,()))∧TI b t'∧TL b t':=by
 have hc:=nn' hcode;have hz:=hb.hi;unfold ncs'
 have hcap:((decide ((0:Int)≤(b.A0.length:Int))&&decide ((b.A0.length:Int)≤(b.A0.length:Int)))&&decide ((b.A0.length:Int)≤2147483648))=true:=by
  simp only [decide_eq_true (show (0:Int)≤(b.A0.length:Int) by omega),decide_eq_true (Int.le_refl (b.A0.length:Int)),decide_eq_true (show (b.A0.length:Int)≤2147483648 by omega),Bool.and_self]
 refine Sat.bifT hcap (Sat.bifT hcap (Sat.bifT (nh' (by rw [hi.img.lp]; show 0 + b.A0.length≤_; omega)) ?_))
 refine Sat.bindS (Q:=fun y=>∃ t',y=((),(t'.tup b x g,()))∧TI b t'∧TL b t') ?_ fun y hy=>by obtain ⟨t',rfl,h⟩:=hy; exact Sat.ret ⟨t',rfl,h⟩
 refine Sat.loop (fun (k:Nat) z=>∃ (t':Tk) (i:Nat),z=(((),(b.A0.length:Int),(i:Int),()),(t'.tup b x g,()))∧TI b t'∧TL b t'∧i + k=b.A0.length) (fun k z hz=>?_) b.A0.length ⟨{ t with shows:=List.replicate (Int.toNat (b.A0.length:Int)) (Calls.mk 0 0),was:=[]++t.m.L0.F0,cmds:=List.replicate (Int.toNat (b.A0.length:Int)) 0 },0,rfl,⟨hi.img,hi.con,hi.bel,hi.beld,hi.car,hi.caru,hi.lod,hi.lit,hi.exl,hi.exv,hi.bud,hi.oc,hi.su⟩,⟨by rw [List.length_replicate,Int.toNat_natCast],by rw [List.nil_append]; exact hi.img.lp,by rw [List.length_replicate,Int.toNat_natCast]⟩,Nat.zero_add _⟩ (by omega)
 obtain ⟨t',i,rfl,hi,hl,hk⟩:=hz;unfold nho';refine Sat.bif (fun gg=>?_) fun _=>Sat.ret ⟨t',rfl,hi,hl⟩
 have gg:(i:Int) < (b.A0.length:Int):=of_decide_eq_true gg;have hin:i < b.A0.length:=by omega
 have w:=wrapN (n:=i) (by omega)
 have he:=nbf' hb hi.img;have hp:=hi.img.lp;have hmx:100000≤maxLen:=by decide
 have i1:inB (i:Int) t'.m.C1.length=true:=na' (by omega) (by rw [hi.con]; exact gg)
 have i2:inB (i:Int) t'.m.S0.length=true:=na' (by omega) (by rw [hi.bel]; exact gg)
 have i3:inB (i:Int) t'.m.A0.length=true:=na' (by omega) (by rw [hi.car]; exact gg)
 have i4:inB (i:Int) t'.was.length=true:=na' (by omega) (by rw [hl.was]; exact gg)
 have i5:inB (i:Int) t'.cmds.length=true:=na' (by omega) (by rw [hl.cmds]; exact gg)
 have i6:inB (i:Int) t'.shows.length=true:=na' (by omega) (by rw [hl.shows]; exact gg)
 have hbd:(t'.m.S0.getD i noBlf).M0.length≤1000:=hi.beld _ (n5' _ (by rw [hi.bel]; exact hin))
 have hcu:ucR (t'.m.A0.getD i nry').N1:=hi.caru _ (n5' _ (by rw [hi.car]; exact hin))
 refine Sat.bifT i4 ?_;refine Sat.bindS (Q:=fun y=>∃ (p:Int) (q:Bool),y=(((),(b.A0.length:Int),(i:Int),p,q,()),(t'.tup b x g,()))∧(q=true→g=true)) ?_ fun y hy=>?_
 ·exact Sat.bindS (nca' _) fun _ _=>Sat.bif (fun _=>Sat.ret ⟨_,_,rfl,id⟩) fun _=>Sat.ret ⟨_,_,rfl,fun h=>by cases h⟩
 obtain ⟨p,q,rfl,hq⟩:=hy;refine Sat.bif (fun _=>?_) fun _=>?_
 ·refine Sat.bifT i1 (Sat.bindS (n3i' (fl:=b.D0) (by omega) _ _ _ _ _) fun y3 _=>Sat.bindS (nrk' _ _ _ _) fun y4 _=>?_)
  refine Sat.bifT i6 (Sat.bifT i2 (Sat.bindS (n1v' hb hcode hin (t'.m.S0.getD i noBlf) hbd _ _ _) fun y5 h5=>Sat.bifT i2 ?_))
  refine Sat.ret ⟨k - 1,by omega,(t'.sBel i (Belief.mk y5.2.1.1 y5.2.1.2.1 y5.2.1.2.2.1 y5.2.1.2.2.2.1 y5.2.1.2.2.2.2.1 y5.2.1.2.2.2.2.2.1)).sShow i (Calls.mk y4.2.1.1 y4.2.1.2.1),i + 1,?_,(hi.sBel i h5).sShow i _,(hl.sBel i _).sShow i _,by omega⟩
  first | (rw [← w]; rfl) | rw [← w]
 refine Sat.bindS (nca' _) fun _ _=>Sat.bif (fun _=>?_) fun _=>?_
 ·refine Sat.bifT i2 (Sat.bindS (n4v' hb hcode hin (t'.m.S0.getD i noBlf) hbd) fun y5 h5=>Sat.bifT i2 ?_)
  refine Sat.ret ⟨k - 1,by omega,t'.sBel i (Belief.mk y5.2.1.1 y5.2.1.2.1 y5.2.1.2.2.1 y5.2.1.2.2.2.1 y5.2.1.2.2.2.2.1 y5.2.1.2.2.2.2.2.1),i + 1,?_,hi.sBel i h5,hl.sBel i _,by omega⟩
  first | (rw [← w]; rfl) | rw [← w]
 refine Sat.bindS (Q:=fun y=>∃ (q:Bool),y=(((),(b.A0.length:Int),(i:Int),p,q,()),(t'.tup b x g,()))∧(q=true→g=true)) ?_ fun y hy=>?_
 ·exact Sat.bindS (nb1' _) fun _ _=>Sat.bif (fun _=>Sat.ret ⟨_,rfl,id⟩) fun _=>Sat.ret ⟨_,rfl,fun h=>by cases h⟩
 obtain ⟨q,rfl,hq⟩:=hy;refine Sat.bif (fun hqq=>?_) fun _=>?_
 ·have i7:inB (i:Int) x.cars.length=true:=na' (by omega) (by rw [hx (hq hqq)]; exact gg)
  refine Sat.bindS (Q:=fun y=>∃ (h0 h1:Int),y=(((),(b.A0.length:Int),(i:Int),(),()),((h0,h1,()),t'.tup b x g,()))) ?_ fun y hy=>?_
  ·refine Sat.bif (fun _=>?_) fun _=>Sat.ret ⟨_,_,rfl⟩
   refine Sat.bindS (nou' hi.img) fun rd _=>?_
   exact Sat.bindE (nqn' hb rd.1.1 t'.m.L0 (by omega) (by omega) (i:Int)) (Sat.ret ⟨_,_,rfl⟩)
  obtain ⟨h0,h1,rfl⟩:=hy;refine Sat.bifT i7 (Sat.bifT i3 (Sat.bindS (n7n' hb hcode (t'.m.A0.getD i nry') hcu _ _ _ _ _ _ _ _) fun y h=>Sat.bifT i3 (Sat.bifT i5 ?_)))
  refine Sat.ret ⟨k - 1,by omega,t'.sCar i (NewCar.mk y.2.1.1 y.2.1.2.1 y.2.1.2.2.1 y.2.1.2.2.2.1 y.2.1.2.2.2.2.1 y.2.1.2.2.2.2.2.1 y.2.1.2.2.2.2.2.2.1 y.2.1.2.2.2.2.2.2.2.1 y.2.1.2.2.2.2.2.2.2.2.1 y.2.1.2.2.2.2.2.2.2.2.2.1 y.2.1.2.2.2.2.2.2.2.2.2.2.1 y.2.1.2.2.2.2.2.2.2.2.2.2.2.1 y.2.1.2.2.2.2.2.2.2.2.2.2.2.2.1 y.2.1.2.2.2.2.2.2.2.2.2.2.2.2.2.1) y.1.2.1,i + 1,?_,hi.sCar i h _,hl.sCar i _ _,by omega⟩
  first | (rw [← w]; rfl) | rw [← w]
 refine Sat.bindS (nb1' _) fun _ _=>Sat.bif (fun _=>?_) fun _=>?_
 ·refine Sat.bifT i3 (Sat.bindS (n4y' hb hcode (t'.m.A0.getD i nry') hcu _) fun y h=>Sat.bifT i3 (Sat.bifT i5 ?_))
  refine Sat.ret ⟨k - 1,by omega,t'.sCar i (NewCar.mk y.2.1.1 y.2.1.2.1 y.2.1.2.2.1 y.2.1.2.2.2.1 y.2.1.2.2.2.2.1 y.2.1.2.2.2.2.2.1 y.2.1.2.2.2.2.2.2.1 y.2.1.2.2.2.2.2.2.2.1 y.2.1.2.2.2.2.2.2.2.2.1 y.2.1.2.2.2.2.2.2.2.2.2.1 y.2.1.2.2.2.2.2.2.2.2.2.2.1 y.2.1.2.2.2.2.2.2.2.2.2.2.2.1 y.2.1.2.2.2.2.2.2.2.2.2.2.2.2.1 y.2.1.2.2.2.2.2.2.2.2.2.2.2.2.2.1) y.1.2.1,i + 1,?_,hi.sCar i h _,hl.sCar i _ _,by omega⟩
  first | (rw [← w]; rfl) | rw [← w]
 ·refine Sat.ret ⟨k - 1,by omega,t',i + 1,?_,hi,hl,by omega⟩
  first | (rw [← w]; rfl) | rw [← w]
end
end Go.Ovl
