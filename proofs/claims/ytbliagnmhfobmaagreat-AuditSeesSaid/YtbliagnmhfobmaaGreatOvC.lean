/- The store (layer 8): what the reference's functions come to. -/
import Derived.Test.YtbliagnmhfobmaaGreatOvB
namespace Go.Ovl
open Go Go.Ab
theorem ngy' (room:Int) (h0 h1:ByteArray) (sel:Int):nc2' room h0 h1 sel=some ((decide (Sto.ok room ⟨h0,h1,sel⟩),()),()):=by
 unfold nc2' Sto.ok;by_cases a:1≤room
 ·by_cases b:room≤65536
  ·by_cases c:(h0.size:Int)≤room
   ·by_cases d:(h1.size:Int)≤room
    ·by_cases e:sel=0
     ·simp [a,b,c,d,e]
     ·by_cases f:sel=1 <;> simp [a,b,c,d,e,f,beq_f]
    ·simp [a,b,c,d]
   ·simp [a,b,c]
  ·simp [a,b]
 ·simp [a]
theorem nm0' (room:Int) (h0 h1:ByteArray) (sel half bud:Int):nh0' room h0 h1 sel half bud=some ((Sto.chk room ⟨h0,h1,sel⟩ half bud,()),()):=by
 unfold nh0' Sto.chk;rw [ngy'];by_cases a:Sto.ok room ⟨h0,h1,sel⟩
 ·by_cases b:half=0
  ·by_cases c:bud < 0 <;> simp [a,b,c]
  ·by_cases d:half=1
   ·by_cases c:bud < 0 <;> simp [a,c,d]
   ·simp [a,b,d,bne_t]
 ·simp [a]
theorem nbbv' (room:Int) (h0 h1:ByteArray) (sel half bud:Int) (hb:bud < 9223372036854775808):nnr' room h0 h1 sel half bud=some (Sto.out (Sto.erase room ⟨h0,h1,sel⟩ half bud)):=by
 unfold nnr' Sto.erase Sto.act;rw [nm0'];generalize hc:Sto.chk room ⟨h0,h1,sel⟩ half bud=c;by_cases h:c=0
 ·subst h
  obtain ⟨_,hh,hb0⟩:=nwr' hc;by_cases h2:bud=0
  ·simp [h2,Sto.out]
  ·have hin:inB half 2=true:=na' (by omega) (by omega)
   rw [nc' (n:=bud - 1) (by omega) (by omega)]
   have e:(bud==0)=false:=by simpa using h2
   rcases hh with rfl | rfl <;> simp [hin,e,h2,Sto.out,Sto.set,noB] <;> rfl
 ·simp [h,Sto.out,Sto.no,noB,bne_t]
theorem n8p' (room:Int) (h0 h1:ByteArray) (sel half bud:Int) (hb:bud < 9223372036854775808):nk0' room h0 h1 sel half bud=some (Sto.out (Sto.choose room ⟨h0,h1,sel⟩ half bud)):=by
 unfold nk0' Sto.choose Sto.act;rw [nm0'];generalize hc:Sto.chk room ⟨h0,h1,sel⟩ half bud=c;by_cases h:c=0
 ·subst h
  obtain ⟨_,hh,hb0⟩:=nwr' hc;by_cases h2:bud=0
  ·simp [h2,Sto.out]
  ·rw [nc' (n:=bud - 1) (by omega) (by omega)]
   have e:(bud==0)=false:=by simpa using h2
   simp [e,h2,Sto.out]
 ·simp [h,Sto.out,Sto.no,noB,bne_t]
theorem nqc' (h0 h1:ByteArray) (sel:Int):nhn' h0 h1 sel=some ((Sto.cur ⟨h0,h1,sel⟩,()),()):=by
 unfold nhn' Sto.cur;by_cases h:sel=1 <;> simp [h,beq_f]
theorem n64' {s:Sto} {half:Int} (hh:half=0∨half=1) (x:ByteArray):(s.set half x).get half=x:=by rcases hh with rfl | rfl <;> rfl
theorem set_set {s:Sto} {half:Int} (hh:half=0∨half=1) (x y:ByteArray):(s.set half x).set half y=s.set half y:=by rcases hh with rfl | rfl <;> rfl
theorem n69' {s:Sto} {half:Int} (hh:half=0∨half=1):s.set half (s.get half)=s:=by rcases hh with rfl | rfl <;> rfl
theorem n0z' {s:Sto} {half:Int} (hh:half=0∨half=1):List.getD [s.h0,s.h1] half.toNat (ByteArray.mk (Array.mk []))=s.get half:=by rcases hh with rfl | rfl <;> rfl
theorem n9h' {s:Sto} {half:Int} (hh:half=0∨half=1) (x:ByteArray):((bif Nat.beq half.toNat 0 then x else s.h0),((bif Nat.beq half.toNat 1 then x else s.h1),(s.sel,())))=(s.set half x).tup:=by
 rcases hh with rfl | rfl <;> rfl
theorem n2a' {half:Int} {d:ByteArray} {bud i:Int} {s t:Sto} (h:(d.size:Int)≤i) :
  nbo' half d bud i s.h0 s.h1 s.sel t.h0 t.h1 t.sel=some (.inr (.inl ((bud,((),((),()))),(s.tup,(t.tup,()))))):=by
 unfold nbo';have e:decide (i < (d.size:Int))=false:=by simp; omega
 rw [e]; rfl
theorem ny9' {half:Int} {d:ByteArray} {i:Int} {s t:Sto} (h:i < (d.size:Int)) :
  nbo' half d 0 i s.h0 s.h1 s.sel t.h0 t.h1 t.sel=some (.inr (.inr (((),(0,(8,()))),(s.tup,())))):=by
 unfold nbo';have e:decide (i < (d.size:Int))=true:=by simpa using h
 rw [e]; rfl
theorem n21' {half:Int} (hh:half=0∨half=1) {d:ByteArray} {bud:Int} {i:Nat} {s t:Sto} (h:i < d.size) (hd:d.size < 1000000) (hb:0 < bud) (hb':bud < 9223372036854775808) (hs:(s.get half).size < 1000000) :
  nbo' half d bud i s.h0 s.h1 s.sel t.h0 t.h1 t.sel =
   some (.inl ((half,(d,(bud - 1,((),((),(((i + 1:Nat):Int),())))))),((s.set half (s.get half++d.extract i (i + 1))).tup,(t.tup,())))):=by
 unfold nbo';have e:decide ((i:Int) < (d.size:Int))=true:=by simp; omega
 have e1:(bud==0)=false:=beq_f (by omega)
 have e2:inB half 2=true:=na' (by omega) (by omega)
 have w:IntKind.i64.wrap ((i:Int) + 1)=((i + 1:Nat):Int):=by rw [nc' (by omega) (by omega)]; omega
 have w2:IntKind.i64.wrap (bud - 1)=bud - 1:=nc' (by omega) (by omega)
 have e3:(decide ((0:Int)≤((i + 1:Nat):Int))&&decide (((i + 1:Nat):Int)≤(d.size:Int)))=true:=by simp; omega
 have e4:(decide ((0:Int)≤(i:Int))&&decide ((i:Int)≤((Int.toNat ((i + 1:Nat):Int):Nat):Int)))=true:=by simp; omega
 have e5:Int.toNat ((i + 1:Nat):Int)=i + 1:=by omega
 have e6:Int.toNat (i:Int)=i:=by omega
 simp only [e,e1,e2,w,w2,e3,e4,cond_true,cond_false,n0z' hh];simp only [e5,e6];have e7:Nat.ble ((s.get half).size + (d.extract i (i + 1)).size) 4611686018427387904=true:=nh' (by simp; omega)
 rw [e7,cond_true,n9h' hh];rfl
theorem n2q' {half:Int} (hh:half=0∨half=1) {d:ByteArray} {t:Sto} (hd:d.size≤65536):∀ (n i:Nat) (bud:Int) (s:Sto),d.size - i=n→i≤d.size→0≤bud→bud < 9223372036854775808→(s.get half).size + (d.size - i)≤65536 →
  iter (fun x=>nbo' x.1.1 x.1.2.1 x.1.2.2.1 x.1.2.2.2.2.2.1 x.2.1.1 x.2.1.2.1 x.2.1.2.2.1 x.2.2.1.1 x.2.2.1.2.1 x.2.2.1.2.2.1) (n + 1)
    ((half,(d,(bud,((),((),((i:Int),())))))),(s.tup,(t.tup,()))) =
   some (if bud < (d.size:Int) - i then .inr (((),(0,(8,()))),((s.set half (s.get half++d.extract i (i + bud.toNat))).tup,()))
    else .inl ((bud - ((d.size:Int) - i),((),((),()))),((s.set half (s.get half++d.extract i d.size)).tup,(t.tup,()))))
 | 0,i,bud,s,hn,hi,hb,hb',hs=>by
  have:i=d.size:=by omega
  subst this;refine no' (y:=_) ?_;rw [if_neg (by omega),n0h',nye',n69' hh]
  show nbo' half d bud (d.size:Int) s.h0 s.h1 s.sel t.h0 t.h1 t.sel=_;rw [n2a' (Int.le_refl _)];simp
 | n + 1,i,bud,s,hn,hi,hb,hb',hs=>by
  by_cases h0:bud=0
  ·subst h0
   refine no' (y:=_) ?_;rw [if_pos (by omega)]
   show nbo' half d 0 (i:Int) s.h0 s.h1 s.sel t.h0 t.h1 t.sel=_;rw [ny9' (by omega)]
   simp only [Int.toNat_zero,Nat.add_zero,n0h',nye',n69' hh]
  ·rw [nv' (show nbo' half d bud (i:Int) s.h0 s.h1 s.sel t.h0 t.h1 t.sel=_ from n21' hh (by omega) (by omega) (by omega) hb' (by omega)),
    n2q' hh hd n (i + 1) (bud - 1) _ (by omega) (by omega) (by omega) (by omega) (by rw [n64' hh]; simp; omega)]
   rw [n64' hh,set_set hh,set_set hh,ByteArray.append_assoc,ByteArray.append_assoc];by_cases h1:bud < (d.size:Int) - i
   ·rw [if_pos h1,if_pos (by omega),n3t' d (by omega) (by omega),show i + 1 + (bud - 1).toNat=i + bud.toNat by omega]
   ·rw [if_neg h1,if_neg (by omega),n3t' d (by omega) (by omega)]
    congr 3
    have:bud - 1 - ((d.size:Int) - ((i + 1:Nat):Int))=bud - ((d.size:Int) - i):=by omega
    rw [this]
theorem nr5' (room:Int) (h0 h1:ByteArray) (sel half:Int) (d:ByteArray) (bud:Int) (hb:bud < 9223372036854775808) (hd:d.size < 1000000) :
  nju' room h0 h1 sel half d bud=some (Sto.out (Sto.write room ⟨h0,h1,sel⟩ half d bud)):=by
 unfold nju' Sto.write;rw [nm0'];generalize hc:Sto.chk room ⟨h0,h1,sel⟩ half bud=c;by_cases h:c=0
 ·subst h
  obtain ⟨⟨o1,o2,o3,o4,o5⟩,hh,hb0⟩:=nwr' hc;simp only at o3 o4;have hin:inB half 2=true:=na' (by omega) (by omega)
  have hg:List.getD [h0,h1] half.toNat (ByteArray.mk (Array.mk []))=Sto.get ⟨h0,h1,sel⟩ half:=n0z' (s:=⟨h0,h1,sel⟩) hh;have hgs:((Sto.get ⟨h0,h1,sel⟩ half).size:Int)≤room:=by rcases hh with rfl | rfl <;> simpa [Sto.get]
  simp only [Option.bind_some,hin,cond_true,hg];rw [nc' (n:=((Sto.get ⟨h0,h1,sel⟩ half).size:Int) + d.size) (by omega) (by omega)]
  by_cases h2:room < ((Sto.get ⟨h0,h1,sel⟩ half).size:Int) + d.size
  ·simp [h2,Sto.out,Sto.no,noB]
  ·have hl:=n2q' (t:=Sto.no) hh (d:=d) (by omega) d.size 0 bud ⟨h0,h1,sel⟩ (by omega) (by omega) hb0 hb (by omega)
   have hl':nhi' ((half,(d,(bud,((),((),((0:Int),())))))),((Sto.tup ⟨h0,h1,sel⟩),(Sto.no.tup,())))=_:=ng' hl (by omega)
   have e:decide (room < ((Sto.get ⟨h0,h1,sel⟩ half).size:Int) + d.size)=false:=by simpa using h2
   have z:((0:Int) != 0)=false:=rfl;simp only [z,cond_false,h2,if_false,ne_eq,not_true_eq_false];show (nhi' ((half,(d,(bud,((),((),((0:Int),())))))),((Sto.tup ⟨h0,h1,sel⟩),(Sto.no.tup,())))).bind _=_;rw [hl'];by_cases h3:bud < d.size
   ·rw [if_pos (by omega),if_pos h3]
    simp [Sto.out,Sto.tup]
   ·rw [if_neg (by omega),if_neg h3]
    simp [Sto.out,Sto.tup]
 ·simp [h,Sto.out,Sto.no,noB,bne_t]
end Go.Ovl
namespace Go.Ovl
open Go Go.Ab
set_option maxRecDepth 100000
theorem nt8' {b:Bldg} (hb:b.small) (hc:b.A0.length≤100) {rs:List Record} (hl:rs.length≤100000):njo' b.D0 b.E0 b.I0 b.Q0 b.J0 b.K0 b.P0 b.A0 rs=some ((txt (rs.flatMap fun r=>bl (encR b r)),()),()):=by
 have h:=nz' (step:=fun x=>letI a:=x.2.1.2.2; letI b:=a.2.2; nex' x.1.1 x.1.2.2.1 x.1.2.2.2.1 x.2.1.1 x.2.1.2.1 a.1 a.2.1 b.1 b.2.1 b.2.2.1 b.2.2.2.1) rs.length (fun i (l:List UInt8)=>((rs,(),txt l,(i:Int),()),(b.tup,()))) (fun i l=>l++bl (encR b (rs.getD i (Record.mk 0 0 0 0 0)))) (fun i l=>l.length≤6 * i) (fun l=>((txt l,()),())) (fun i l hi hs=>by
  have he:=nbbc' b (rs.getD i (Record.mk 0 0 0 0 0));refine ⟨?_,by rw [List.length_append]; omega⟩
  show nex' rs (txt l) (i:Int) b.D0 b.E0 b.I0 b.Q0 b.J0 b.K0 b.P0 b.A0=_;unfold nex';simp only [decide_eq_true (show (i:Int) < (rs.length:Int) by omega),na' (show (0:Int)≤(i:Int) by omega) (show (i:Int) < (rs.length:Int) by omega),cond_true,Int.toNat_natCast,n1r' hb hc,Option.bind_some,wrap1 hi (show rs.length≤nu' by unfold nu'; omega)]
  rw [nh' (show (txt l).size + (encR b (rs.getD i (Record.mk 0 0 0 0 0))).size≤4611686018427387904 by rw [nmp',← nhk']; omega)]
  rw [show txt l++encR b (rs.getD i (Record.mk 0 0 0 0 0))=txt (l++bl (encR b (rs.getD i (Record.mk 0 0 0 0 0)))) by rw [← n6k',nbf2']]
  rfl) (fun l _=>by
  show nex' rs (txt l) (rs.length:Int) b.D0 b.E0 b.I0 b.Q0 b.J0 b.K0 b.P0 b.A0=_;unfold nex';simp only [decide_eq_false (Int.lt_irrefl (rs.length:Int)),cond_false]) rs.length 0 [] (by omega) (by simp)
 have h':=ng' h.1 (by omega)
 rw [ngo' (fun i=>bl (encR b (rs.getD i (Record.mk 0 0 0 0 0)))),List.nil_append,nla' (fun r=>bl (encR b r)) (Record.mk 0 0 0 0 0) rs 0 rs.length (by omega),List.drop_zero] at h'
 unfold njo';rw [show nkd' ((rs,(),ByteArray.mk (Array.mk []),(0:Int),()),((b.D0,b.E0,b.I0,b.Q0,b.J0,b.K0,b.P0,b.A0,()),()))=_ from h']
 rfl
theorem nvz' {b:Bldg} (hb:b.small) (m:Img) (hc:b.A0.length≤100000) (hp:m.F0.length≤100000) (hl:m.B0.length≤100000) :
  nis' b.D0 b.E0 b.I0 b.Q0 b.J0 b.K0 b.P0 b.A0 m.F0 m.N0 m.H0 m.B0=some ((roomV b m,()),()):=by
 have hmx:100000≤maxLen:=by decide
 unfold nis' roomV;rw [nbk' hb m (by omega) (by omega)]
 simp only [Option.bind_some,roomW hc hl];cases m.ok b <;> rfl
theorem n17' {b:Bldg} (hb:b.small) (hc:b.A0.length≤100) (hcode:b.code=0) (s:ByteArray) (_hs:s.size≤1000000) :
  ∃ (e:Int) (r0:Record),nk3' b.D0 b.E0 b.I0 b.Q0 b.J0 b.K0 b.P0 b.A0 s=some (((),e,()),((r0.U0,r0.C0,r0.G0,r0.O0,r0.U1,()),()))∧(e != 0)=(decLB b (bl s)).isNone∧∀ r,decLB b (bl s)=some r→r0=r:=by
 unfold nk3';rw [ny',hcode];simp only [Option.bind_some,bne_self_eq_false,cond_false];unfold decLB;by_cases h6:s.size=6
 ·have l6:(bl s).length=6:=by rw [nhk']; exact h6
  have ib:∀ i:Int,0≤i→i < 6→inB i s.size=true:=fun i h h'=>na' h (by omega)
  have x5:bl (s.extract 0 5)=(bl s).take 5:=by rw [n9n']; rfl
  rw [show (((s.size:Nat):Int) != 6)=false by rw [h6]; rfl,decide_eq_true (show (5:Int)≤((s.size:Nat):Int) by omega),nv3' (by rw [← nhk',x5,List.length_take]; omega),x5]
  simp only [cond_false,cond_true,Option.bind_some,ib 5 (by omega) (by omega),ib 0 (by omega) (by omega),ib 1 (by omega) (by omega),ib 2 (by omega) (by omega),ib 3 (by omega) (by omega),ib 4 (by omega) (by omega),n1k']
  rw [l6,show Int.toNat 5=5 from rfl,show Int.toNat 0=0 from rfl,show Int.toNat 1=1 from rfl,show Int.toNat 2=2 from rfl,show Int.toNat 3=3 from rfl,show Int.toNat 4=4 from rfl]
  simp only [show ∀ i:Nat,(((bl s).getD i 0).toNat:Int)=fld (bl s) i from fun _=>rfl]
  have f0:=nuj' (bl s) 0;have f1:=nuj' (bl s) 1;have f2:=nuj' (bl s) 2;have f3:=nuj' (bl s) 3;have f4:=nuj' (bl s) 4;rw [nc' (n:=fld (bl s) 0) (by omega) (by omega),nc' (n:=fld (bl s) 1) (by omega) (by omega),nc' (n:=fld (bl s) 2) (by omega) (by omega),nc' (n:=fld (bl s) 3) (by omega) (by omega),nc' (n:=fld (bl s) 3 - 2) (by omega) (by omega),nc' (n:=fld (bl s) 4) (by omega) (by omega)]
  simp only [bne];cases hq:(((sum8L ((bl s).take 5):Nat):Int))==fld (bl s) 5 with
  | false=>exact ⟨5,⟨0,0,0,0,0⟩,rfl,rfl,fun r h=>by cases h⟩
  | true=>
   have hv:=nmc' hb hc (recL (bl s));unfold recL at hv;simp only at hv;simp only [Bool.not_true,cond_false,hv,Option.bind_some];show ∃ e r0,(bif !(np' b (recL (bl s))) then _ else _)=_∧_;cases np' b (recL (bl s)) with
   | false=>exact ⟨9,⟨0,0,0,0,0⟩,rfl,rfl,fun r h=>by cases h⟩
   | true=>exact ⟨0,recL (bl s),rfl,rfl,fun r h=>Option.some.inj h⟩
 ·rw [show (((s.size:Nat):Int) != 6)=true from bne_t (by omega),show ((bl s).length==6)=false from beq_f (by rw [nhk']; exact h6)]
  exact ⟨4,⟨0,0,0,0,0⟩,rfl,rfl,fun r h=>by cases h⟩
theorem n5x' {b:Bldg} (hb:b.small) (hc:b.A0.length≤100) (hcode:b.code=0) (s:ByteArray) (hs:s.size≤1000000) :
  ∃ n:Int,npp' b.D0 b.E0 b.I0 b.Q0 b.J0 b.K0 b.P0 b.A0 s=some ((readV b s,n,()),()):=by
 have key:∀ (k n:Nat) (l:List Record),s.size≤n + 6 * k→n≤s.size→l.length≤n→∃ y:Int,iter (fun x=>letI a:=x.2.1.2.2; letI b:=a.2.2; ndq' x.1.1 x.1.2.2.1 x.1.2.2.2.1 x.2.1.1 x.2.1.2.1 a.1 a.2.1 b.1 b.2.1 b.2.2.1 b.2.2.2.1) (k + 1) ((s,(),l,(n:Int),()),(b.tup,()))=some ((l++readL b k ((bl s).drop n),y,()),()):=by
  intro k
  induction k with
  | zero=>
   intro n l h1 h2 _;refine ⟨(n:Int),no' ?_⟩;show ndq' s l (n:Int) b.D0 b.E0 b.I0 b.Q0 b.J0 b.K0 b.P0 b.A0=_;unfold ndq';rw [nc' (n:=(n:Int) + 6) (by omega) (by omega),decide_eq_false (show ¬ (n:Int) + 6≤(s.size:Int) by omega)]
   simp only [cond_false,readL,List.append_nil]
  | succ k ih=>
   intro n l h1 h2 h3;have w:IntKind.i64.wrap ((n:Int) + 6)=((n + 6:Nat):Int):=by rw [nc' (by omega) (by omega)]; omega
   by_cases g:n + 6≤s.size
   ·have hbl:((bl s).drop n).length=s.size - n:=by rw [List.length_drop,nhk']
    have hx:bl (s.extract n (n + 6))=((bl s).drop n).take 6:=by rw [n9n',show n + 6 - n=6 by omega]
    obtain ⟨e,r0,d1,d2,d3⟩:=n17' hb hc hcode (s.extract n (n + 6)) (by rw [← nhk',hx,List.length_take]; omega)
    rw [hx] at d2 d3
    have hstep:∀ X,(bif (e != 0) then some (Sum.inr ((l,(n:Int),()),())) else some (Sum.inl ((s,(),(l++[r0]),((n + 6:Nat):Int),()),(b.tup,()))))=X→ndq' s l (n:Int) b.D0 b.E0 b.I0 b.Q0 b.J0 b.K0 b.P0 b.A0=X:=by
     rintro X rfl;unfold ndq';simp only [w,decide_eq_true (show ((n + 6:Nat):Int)≤(s.size:Int) by omega),decide_eq_true (show (0:Int)≤((n + 6:Nat):Int) by omega),decide_eq_true (show (0:Int)≤(n:Int) by omega),Int.toNat_natCast,decide_eq_true (show (n:Int)≤((n + 6:Nat):Int) by omega),Bool.and_self,cond_true,d1,Option.bind_some]
     rw [nh' (show l.length + [Record.mk r0.U0 r0.C0 r0.G0 r0.O0 r0.U1].length≤2147483648 by rw [List.length_singleton]; omega)]
     rfl
    cases hd:decLB b (((bl s).drop n).take 6) with
    | none=>
     rw [hd] at d2;rw [d2] at hstep;refine ⟨(n:Int),(no' (hstep _ rfl)).trans ?_⟩;simp only [readL,hbl,hd];rw [if_pos (by omega),List.append_nil]
    | some r=>
     rw [hd] at d2;rw [d2] at hstep;obtain rfl:=d3 r hd;obtain ⟨y,hy⟩:=ih (n + 6) (l++[r0]) (by omega) g (by rw [List.length_append,List.length_singleton]; omega)
     refine ⟨y,(nv' (hstep _ rfl)).trans (hy.trans ?_)⟩;simp only [readL,hbl,hd];rw [if_pos (by omega),List.append_assoc,List.drop_drop]
     rfl
   ·refine ⟨(n:Int),no' ?_⟩
    show ndq' s l (n:Int) b.D0 b.E0 b.I0 b.Q0 b.J0 b.K0 b.P0 b.A0=_;unfold ndq';rw [w,decide_eq_false (show ¬ ((n + 6:Nat):Int)≤(s.size:Int) by omega)]
    simp only [cond_false,readL];rw [if_neg (by rw [List.length_drop,nhk']; omega),List.append_nil]
 obtain ⟨y,hy⟩:=key s.size 0 [] (by omega) (by omega) (by simp)
 have hy':=ng' hy (by omega)
 refine ⟨y,?_⟩;unfold npp';rw [show nk9' ((s,(),[],(0:Int),()),((b.D0,b.E0,b.I0,b.Q0,b.J0,b.K0,b.P0,b.A0,()),()))=_ from hy']
 rw [List.drop_zero,List.nil_append];rfl
theorem nxb' {b:Bldg} (hb:b.small) {rs:List Record} (hv:∀ r ∈ rs,np' b r=true) (hl:rs.length≤900) (m0 m:Img) (hm:ImgOK b m) (hml:m.B0.length=0) :
  nix' (((),(),(),rs,(0:Int),()),(b.tup,m0.tup,m.tup,()))=some (((),(),()),(m0.tup,(nbc' m rs).tup,())):=by
 have hcars:=nn' hm.code
 have h:=nz' (step:=fun x=>letI a:=x.2.1.2.2; letI b:=x.2.2; letI c:=a.2.2; letI d:=b.2.1; nem' x.1.2.2.2.1 x.1.2.2.2.2.1 x.2.1.1 x.2.1.2.1 a.1 a.2.1 c.1 c.2.1 c.2.2.1 c.2.2.2.1 b.1.1 b.1.2.1 b.1.2.2.1 b.1.2.2.2.1 d.1 d.2.1 d.2.2.1 d.2.2.2.1) rs.length
  (fun i (m:Img)=>(((),(),(),rs,(i:Int),()),(b.tup,m0.tup,m.tup,()))) (fun i m=>n4' m (rs.getD i (Record.mk 0 0 0 0 0))) (fun i m=>ImgOK b m∧m.B0.length≤i) (fun m=>(((),(),()),(m0.tup,m.tup,()))) (fun i m hi hs=>by
   obtain ⟨hm,hle⟩:=hs;have hr:=hv _ (n5' (Record.mk 0 0 0 0 0) hi);have hlp:=hm.lp;have hmx:1000≤maxLen:=by decide
   obtain ⟨a1,a2⟩:=ngq' hm hr;refine ⟨?_,a1,by omega⟩
   have ha:=nqj' hb m (by omega) (rs.getD i (Record.mk 0 0 0 0 0)) (by omega) (by omega)
   rw [n0g' hm hr] at ha;show nem' rs (i:Int) b.D0 b.E0 b.I0 b.Q0 b.J0 b.K0 b.P0 b.A0 m0.F0 m0.N0 m0.H0 m0.B0 m.F0 m.N0 m.H0 m.B0=_;unfold nem';simp only [decide_eq_true (show (i:Int) < (rs.length:Int) by omega),na' (show (0:Int)≤(i:Int) by omega) (show (i:Int) < (rs.length:Int) by omega),cond_true,Int.toNat_natCast,ha,Option.bind_some,wrap1 hi (show rs.length≤nu' by unfold nu'; omega)]
   rfl) (fun m _=>by
   show nem' rs (rs.length:Int) b.D0 b.E0 b.I0 b.Q0 b.J0 b.K0 b.P0 b.A0 m0.F0 m0.N0 m0.H0 m0.B0 m.F0 m.N0 m.H0 m.B0=_;unfold nem';simp only [decide_eq_false (Int.lt_irrefl (rs.length:Int)),cond_false]
   rfl) rs.length 0 m (by omega) ⟨hm,by omega⟩
 have h':=ng' h.1 (by omega)
 have e:∀ (l:List Record) (m:Img),l.foldl n4' m=nbc' m l:=fun l=>by
  induction l with
  | nil=>exact fun m=>rfl
  | cons r t ih=>exact fun m=>ih (n4' m r)
 rw [nru' n4' (Record.mk 0 0 0 0 0) rs rs.length 0 m (by omega),List.drop_zero,e] at h'
 exact h'
theorem n1y' {b:Bldg} (hb:b.small) (hcode:b.code=0) (s:Sto) (hs:s.cur.size≤5000) :
  nlq' b.D0 b.E0 b.I0 b.Q0 b.J0 b.K0 b.P0 b.A0 s.h0 s.h1 s.sel=some (((),()),((ndz' b s).tup,())):=by
 have hcars:=nn' hcode;obtain ⟨n,hr⟩:=n5x' hb (by omega) hcode s.cur (by omega)
 have hlen:(readV b s.cur).length≤900:=by
  have:=nq4' b s.cur.size (bl s.cur)
  rw [nhk'] at this;unfold readV; omega
 have hl:=nxb' (b:=b) hb (rs:=readV b s.cur) (fun r hr=>nnu' b _ _ r hr) hlen Img.none (initV b) (nwx' hcode) rfl
 unfold nlq';rw [nzr' hcode (by omega),nqc']
 simp only [Option.bind_some];rw [show Sto.cur ⟨s.h0,s.h1,s.sel⟩=s.cur from rfl,hr]
 simp only [Option.bind_some];simp only [Img.tup,Img.none,Bldg.tup] at hl ⊢;rw [hl];rfl
theorem nty' {b:Bldg} (hcode:b.code=0) (s:Sto) (bud:Int):nm5' b.D0 b.E0 b.I0 b.Q0 b.J0 b.K0 b.P0 b.A0 s.h0 s.h1 s.sel bud=some ((decide (s.ok b.I0)&&decide (0≤bud),()),()):=by
 unfold nm5';rw [ny',hcode,ngy'];simp only [Option.bind_some,beq_self_eq_true,cond_true];rw [show Sto.mk s.h0 s.h1 s.sel=s from rfl]
 cases decide (s.ok b.I0) <;> rfl
theorem nbfq' {room:Int} {s:Sto} {half bud:Int} {t:Sto} (h:(s.act room half bud t).2.2 ≠ 0):(s.act room half bud t).2.1=0:=by
 unfold Sto.act at *;split
 ·rfl
 ·split
  ·rfl
  ·rename_i h1 h2
   rw [if_neg h1,if_neg h2] at h;exact absurd rfl h
theorem nbbm' {room:Int} {s:Sto} {half bud:Int} {d:ByteArray} (h:(s.write room half d bud).2.2 ≠ 0):(s.write room half d bud).2.1=0:=by
 unfold Sto.write at *;split
 ·rfl
 ·split
  ·rfl
  ·split
   ·rfl
   ·rename_i h1 h2 h3
    rw [if_neg h1,if_neg h2,if_neg h3] at h;exact absurd rfl h
theorem n2l' (bud:Int):decide (bud < 0)=!decide (0≤bud):=nut' bud 0
theorem nsm' {b:Bldg} (hb:b.small) (hcode:b.code=0) (s:Sto) {m:Img} (hf:m.fit) (hl:m.B0.length≤5000) {bud:Int} (hbud:bud < 9223372036854775808) :
  nhf' b.D0 b.E0 b.I0 b.Q0 b.J0 b.K0 b.P0 b.A0 s.h0 s.h1 s.sel m.F0 m.N0 m.H0 m.B0 bud=some (Sto.out (nce' b s m bud)):=by
 have hmx:100000≤maxLen:=by decide
 have hp:=hf.p;have he:=hf.e;have hcars:=nn' hcode;unfold nhf' nce';rw [nty' hcode,nbk' hb m (by omega) (by omega),nx4' hb hf,n2l']
 simp only [Option.bind_some];by_cases hs:s.ok b.I0
 ·rw [decide_eq_true hs]
  by_cases hb0:0≤bud
  ·rw [decide_eq_true hb0]
   cases hok:m.ok b with
   | false=>rfl
   | true=>
    have hm:=Img.ok_iff.1 hok;have hlp:=hm.lp;have hsn:snapR b m=snapV m:=by unfold snapR; rw [hok]; rfl
    have hsl:=nbbp' m;have hby:=nt8' hb (by omega) (rs:=snapV m) (by rw [hsl]; omega)
    rw [n3h' (n7z' hm)] at hby
    have hsel:IntKind.i64.wrap (1 - s.sel)=1 - s.sel:=by
     obtain ⟨_,_,_,_,h5⟩:=hs;exact nc' (by omega) (by omega)
    simp only [Bool.and_self,Bool.not_true,cond_false,hsn,hby,Option.bind_some,hsel,nbbv' _ _ _ _ _ _ hbud,Sto.out];have hb1:=nzq' b.I0 s (1 - s.sel) bud (s.set (1 - s.sel) noB) hbud;have he1:(s.erase b.I0 (1 - s.sel) bud).2.2 ≠ 0→(s.erase b.I0 (1 - s.sel) bud).2.1=0:=nbfq';rw [show s.act b.I0 (1 - s.sel) bud (s.set (1 - s.sel) noB)=s.erase b.I0 (1 - s.sel) bud from rfl] at hb1
    rw [show Sto.mk s.h0 s.h1 s.sel=s from rfl]
    generalize s.erase b.I0 (1 - s.sel) bud=r1 at hb1 he1 ⊢;by_cases hq:r1.2.2=0
    ·have hdl:(txt ((snapV m).flatMap encL)).size < 1000000:=by rw [nmp',nbfv',hsl]; omega
     simp only [hq,bne_self_eq_false,cond_false,beq_self_eq_true,cond_true,nr5' _ _ _ _ _ _ _ hb1 hdl,Option.bind_some,Sto.out];have hb2:=nun' b.I0 r1.1 (1 - s.sel) (txt ((snapV m).flatMap encL)) r1.2.1 hb1;have he2:(r1.1.write b.I0 (1 - s.sel) (txt ((snapV m).flatMap encL)) r1.2.1).2.2 ≠ 0→(r1.1.write b.I0 (1 - s.sel) (txt ((snapV m).flatMap encL)) r1.2.1).2.1=0:=nbbm';rw [show Sto.mk r1.1.h0 r1.1.h1 r1.1.sel=r1.1 from rfl]
     generalize r1.1.write b.I0 (1 - s.sel) (txt ((snapV m).flatMap encL)) r1.2.1=r2 at hb2 he2 ⊢;by_cases hq2:r2.2.2=0
     ·simp only [hq2,bne_self_eq_false,cond_false,beq_self_eq_true,cond_true,n8p' _ _ _ _ _ _ hb2,Option.bind_some,Sto.out]
     ·rw [bne_t hq2,beq_f hq2,cond_true,cond_false,he2 hq2]
    ·rw [bne_t hq,beq_f hq,cond_true,cond_false,he1 hq]
  ·rw [decide_eq_false hb0]; rfl
 ·rw [decide_eq_false hs]; rfl
theorem nzu' {b:Bldg} (hb:b.small) (hcode:b.code=0) (s:Sto) (hs:s.cur.size≤5000) {bud:Int} (hbud:bud < 9223372036854775808) :
  njv' b.D0 b.E0 b.I0 b.Q0 b.J0 b.K0 b.P0 b.A0 s.h0 s.h1 s.sel bud=some (n9y' (nbl' b s bud).1 (nbl' b s bud).2.1 (nbl' b s bud).2.2.1 (nbl' b s bud).2.2.2):=by
 have hc:=nn' hcode;obtain ⟨hok,hle,hf⟩:=n1p' hcode s (by omega)
 have hle2:(ndz' b s).B0.length≤900:=by
  have h2:=(nq8' (nwx' hcode) (rs:=readV b s.cur) fun r hr=>nnu' b _ _ r hr).2
  have h3:=nq4' b s.cur.size (bl s.cur);rw [nhk'] at h3;have h4:(initV b).B0.length=0:=rfl;have h5:(readV b s.cur).length=(readL b s.cur.size (bl s.cur)).length:=rfl;show (nbc' (initV b) (readV b s.cur)).B0.length≤_;omega
 unfold njv';rw [nty' hcode,n1y' hb hcode s hs];simp only [Option.bind_some,Img.tup];rw [nsm' hb hcode s hf (by omega) hbud]
 simp only [Option.bind_some,Sto.out];unfold nbl';cases hq:decide (s.ok b.I0)&&decide (0≤bud) with
 | false=>
  have e:nce' b s (ndz' b s) bud=(Sto.no,0,1):=by
   unfold nce';rw [n2l'];rw [Bool.and_eq_false_iff] at hq;rcases hq with hq | hq
   ·rw [hq]; rfl
   ·rw [hq]
    cases decide (s.ok b.I0) <;> rfl
  rw [e]; rfl
 | true=>
  generalize nce' b s (ndz' b s) bud=w;cases w.2.2 != 0 <;> rfl
theorem n1z' {b:Bldg} (hb:b.small) (hcode:b.code=0) (s:Sto) {m:Img} (hp:m.F0.length≤100000) (hl:m.B0.length≤900) (r:Record) {bud:Int} (hbud:bud < 9223372036854775808) :
    nlk' b.D0 b.E0 b.I0 b.Q0 b.J0 b.K0 b.P0 b.A0 s.h0 s.h1 s.sel m.F0 m.N0 m.H0 m.B0 r.U0 r.C0 r.G0 r.O0 r.U1 bud=some (nbhi' (ndg' b s m r bud)):=by
  have hmx:100000≤maxLen:=by decide
  have hcars:=nn' hcode
  unfold nlk' ndg'
  rw [nty' hcode,nbk' hb m (by omega) (by omega),nmc' hb (by omega) r,n2l']
  simp only [Option.bind_some]
  cases hq1:m.ok b with
  | false=>cases decide (s.ok b.I0) <;> cases decide (0≤bud) <;> rfl
  | true=>
  cases hq2:np' b r with
  | false=>cases decide (s.ok b.I0) <;> cases decide (0≤bud) <;> rfl
  | true=>
  by_cases hs:s.ok b.I0
  · rw [decide_eq_true hs]
    by_cases hb0:0≤bud
    · rw [decide_eq_true hb0]
      have hm:=Img.ok_iff.1 hq1
      obtain ⟨hm2,hl2⟩:=ngq' hm hq2
      have h1:=hm.lp
      have h2:=hm.lf
      have h3:=hm.ll
      have g1:=hm2.lp
      have g2:=hm2.lf
      have g3:=hm2.ll
      have hf2:(n4' m r).fit:=⟨by omega,by omega,by omega,by omega⟩
      have hcur:(s.cur.size:Int)≤b.I0:=nbhb' hs
      have hroom:=nbbi' hcode
      have wr:IntKind.i64.wrap ((s.cur.size:Int) + 6)=(s.cur.size:Int) + 6:=nc' (by omega) (by omega)
      have hfind:=nnw' m (by omega) r.C0 r.G0
      have hpos:=nkn' (c:=keyE r.C0 r.G0) 0 hm.so
      have hneg:decide (findF r.C0 r.G0 m.B0 0 < 0)=!(hasF (keyE r.C0 r.G0) m.B0):=by
        rw [show findF r.C0 r.G0 m.B0 0=_ from hpos]
        cases hasF (keyE r.C0 r.G0) m.B0 with
        | true=>rw [cond_true]; exact decide_eq_false (by omega)
        | false=>rfl
      have e5 : (bif (r.U0 == (1 : Int)) then
              (nfi' m.F0 m.N0 m.H0 m.B0 r.C0 r.G0).bind fun y4=>
              bif (decide (y4.1.1 < (0:Int))) then
                (nis' b.D0 b.E0 b.I0 b.Q0 b.J0 b.K0 b.P0 b.A0 m.F0 m.N0 m.H0 m.B0).bind fun y5=>
                some ((bud,(),(),(),(),(),(),(!y5.1.1),()),((b.D0,b.E0,b.I0,b.Q0,b.J0,b.K0,b.P0,b.A0,()),(s.h0,s.h1,s.sel,()),(m.F0,m.N0,m.H0,m.B0,()),(r.U0,r.C0,r.G0,r.O0,r.U1,()),((ByteArray.mk (Array.mk [])),(ByteArray.mk (Array.mk [])),(0:Int),()),(([]:List Int),([]:List Bool),([]:List Bool),([]:List Entry),()),()))
              else
                some ((bud,(),(),(),(),(),(),false,()),((b.D0,b.E0,b.I0,b.Q0,b.J0,b.K0,b.P0,b.A0,()),(s.h0,s.h1,s.sel,()),(m.F0,m.N0,m.H0,m.B0,()),(r.U0,r.C0,r.G0,r.O0,r.U1,()),((ByteArray.mk (Array.mk [])),(ByteArray.mk (Array.mk [])),(0:Int),()),(([]:List Int),([]:List Bool),([]:List Bool),([]:List Entry),()),()))
            else
              some ((bud,(),(),(),(),(),(),false,()),((b.D0,b.E0,b.I0,b.Q0,b.J0,b.K0,b.P0,b.A0,()),(s.h0,s.h1,s.sel,()),(m.F0,m.N0,m.H0,m.B0,()),(r.U0,r.C0,r.G0,r.O0,r.U1,()),((ByteArray.mk (Array.mk [])),(ByteArray.mk (Array.mk [])),(0:Int),()),(([]:List Int),([]:List Bool),([]:List Bool),([]:List Entry),()),()))) =
          some ((bud,(),(),(),(),(),(),fullV b m r,()),((b.D0,b.E0,b.I0,b.Q0,b.J0,b.K0,b.P0,b.A0,()),(s.h0,s.h1,s.sel,()),(m.F0,m.N0,m.H0,m.B0,()),(r.U0,r.C0,r.G0,r.O0,r.U1,()),((ByteArray.mk (Array.mk [])),(ByteArray.mk (Array.mk [])),(0:Int),()),(([]:List Int),([]:List Bool),([]:List Bool),([]:List Entry),()),())):=by
        rw [hfind]
        simp only [Option.bind_some,hneg]
        rw [nvz' hb m (by omega) hp (by omega)]
        unfold fullV
        cases r.U0==1 <;> cases hasF (keyE r.C0 r.G0) m.B0 <;> rfl
      simp only [Bool.and_self,Bool.not_true,cond_false]
      rw [e5]
      simp only [Option.bind_some]
      cases fullV b m r with
      | true=>rfl
      | false=>
        simp only [cond_false]
        have hra:=nqj' hb m (by omega) r (by omega) (by omega)
        rw [n0g' hm hq2] at hra
        rw [hra]
        simp only [Option.bind_some,nqc',Img.tup]
        rw [show Sto.cur ⟨s.h0,s.h1,s.sel⟩=s.cur from rfl,wr]
        have hby:=nt8' hb (by omega) (rs:=[Record.mk r.U0 r.C0 r.G0 r.O0 r.U1]) (by rw [List.length_singleton]; omega)
        rw [show (([Record.mk r.U0 r.C0 r.G0 r.O0 r.U1]).flatMap fun x=>bl (encR b x))=encL r by
          rw [List.flatMap_cons,List.flatMap_nil,List.append_nil,show Record.mk r.U0 r.C0 r.G0 r.O0 r.U1=r from rfl,nya' hq2,njm']] at hby
        rw [hby]
        simp only [Option.bind_some]
        rw [nr5' b.I0 s.h0 s.h1 s.sel s.sel (txt (encL r)) bud hbud (by rw [nmp',nws']; omega),nsm' hb hcode s hf2 (by omega) hbud]
        simp only [Option.bind_some,Sto.out]
        rw [show Sto.mk s.h0 s.h1 s.sel=s from rfl,show decide ((s.cur.size:Int) + 6≤b.I0)=decide ((6:Int)≤b.I0 - (s.cur.size:Int)) from decide_eq_decide.2 (by omega)]
        have e10:∀ {A:Type} (f:Sto×Int×Int→A),(bif decide ((6:Int)≤b.I0 - (s.cur.size:Int)) then some (f (s.write b.I0 s.sel (txt (encL r)) bud)) else some (f (nce' b s (n4' m r) bud)))=some (f (putV b s m r bud)):=fun f=>by
          unfold putV
          cases decide ((6:Int)≤b.I0 - (s.cur.size:Int)) <;> rfl
        have e10':=e10 fun w=>((w.2.1,(),(),(),(),(),w.2.2,()),((w.1.h0,w.1.h1,w.1.sel,()),(m.F0,m.N0,m.H0,m.B0,()),((ByteArray.mk (Array.mk [])),(ByteArray.mk (Array.mk [])),(0:Int),()),(([]:List Int),([]:List Bool),([]:List Bool),([]:List Entry),()),(n4' m r).tup,()))
        simp only [Img.tup] at e10'
        rw [e10']
        simp only [Option.bind_some]
        generalize putV b s m r bud=w
        by_cases hw:w.2.2=0
        · rw [hw]; rfl
        · rw [beq_f hw]
          simp only [cond_false]
          cases w.2.2==8 <;> rfl
    · rw [decide_eq_false hb0]; rfl
  · rw [decide_eq_false hs]; cases decide (0≤bud) <;> rfl
theorem nwb' {b:Bldg} (hb:b.small) (m:Img) (hc:b.A0.length≤100000) (hf:m.fit):ni8' b.D0 b.E0 b.I0 b.Q0 b.J0 b.K0 b.P0 b.A0 m.F0 m.N0 m.H0 m.B0=some ((fitsV b m,()),()):=by
 have hmx:100000≤maxLen:=by decide
 have hp:=hf.p;have he:=hf.e;unfold ni8' fitsV;rw [nbk' hb m (by omega) (by omega)]
 simp only [Option.bind_some,fitW hc he];cases m.ok b <;> rfl
theorem n36' (b:Bldg) (hc:b.A0.length≤1000) (m:Img) (z o:Mch) (ho:o.S0=[]):nhp' (((),(),(),(b.A0.length:Int),(),(0:Int),()),(b.tup,m.tup,z.tup,o.tup,()))=some (((),(),(),(),()),(b.tup,m.tup,z.tup,(o.withB (List.replicate b.A0.length nom')).tup,())):=by
 have h:=nz' (step:=fun x=>letI c:=x.2.2.2; letI g:=c.2.1.2; letI a:=g.2.2.2.2; letI h:=c.1.2; letI b:=h.2.2.2.2; letI d:=b.2.2.2.2; letI e:=a.2.2.2.2; letI f:=x.2.1.2.2; letI j:=d.2.2; letI k:=e.2.2; letI l:=f.2.2; letI m:=x.2.2.1; nfe' x.1.2.2.2.1 x.1.2.2.2.2.2.1 x.2.1.1 x.2.1.2.1 f.1 f.2.1 l.1 l.2.1 l.2.2.1 l.2.2.2.1 m.1 m.2.1 m.2.2.1 m.2.2.2.1 c.1.1 h.1 h.2.1 h.2.2.1 h.2.2.2.1 b.1 b.2.1 b.2.2.1 b.2.2.2.1 d.1 d.2.1 j.1 j.2.1 j.2.2.1 j.2.2.2.1 j.2.2.2.2.1 c.2.1.1 g.1 g.2.1 g.2.2.1 g.2.2.2.1 a.1 a.2.1 a.2.2.1 a.2.2.2.1 e.1 e.2.1 k.1 k.2.1 k.2.2.1 k.2.2.2.1 k.2.2.2.2.1) b.A0.length (fun i (l:List Belief)=>(((),(),(),(b.A0.length:Int),(),(i:Int),()),(b.tup,m.tup,z.tup,(o.withB l).tup,()))) (fun _ l=>l++[nom']) (fun i l=>l.length≤i) (fun l=>(((),(),(),(),()),(b.tup,m.tup,z.tup,(o.withB l).tup,()))) (fun i l hi hl=>by
  refine ⟨?_,by rw [List.length_append,List.length_singleton]; omega⟩
  show nfe' (b.A0.length:Int) (i:Int) b.D0 b.E0 b.I0 b.Q0 b.J0 b.K0 b.P0 b.A0 m.F0 m.N0 m.H0 m.B0 z.L0.F0 z.L0.N0 z.L0.H0 z.L0.B0 z.Y0.h0 z.Y0.h1 z.Y0.sel z.C1 z.S0 z.A0 z.A2 z.J1 z.B3 z.I3 z.Q2 z.E2 (o.withB l).L0.F0 (o.withB l).L0.N0 (o.withB l).L0.H0 (o.withB l).L0.B0 (o.withB l).Y0.h0 (o.withB l).Y0.h1 (o.withB l).Y0.sel (o.withB l).C1 (o.withB l).S0 (o.withB l).A0 (o.withB l).A2 (o.withB l).J1 (o.withB l).B3 (o.withB l).I3 (o.withB l).Q2 (o.withB l).E2=_;unfold nfe' nfr';simp only [decide_eq_true (show (i:Int) < (b.A0.length:Int) by omega),cond_true,Option.bind_some,wrap1 hi (show b.A0.length≤nu' by unfold nu'; omega)]
  rw [nh' (show (o.withB l).S0.length + [Belief.mk (-1) 0 0 [] 0 false].length≤2147483648 by show l.length + 1≤_; omega)]
  rfl) (fun l _=>by
  show nfe' (b.A0.length:Int) (b.A0.length:Int) b.D0 b.E0 b.I0 b.Q0 b.J0 b.K0 b.P0 b.A0 m.F0 m.N0 m.H0 m.B0 z.L0.F0 z.L0.N0 z.L0.H0 z.L0.B0 z.Y0.h0 z.Y0.h1 z.Y0.sel z.C1 z.S0 z.A0 z.A2 z.J1 z.B3 z.I3 z.Q2 z.E2 (o.withB l).L0.F0 (o.withB l).L0.N0 (o.withB l).L0.H0 (o.withB l).L0.B0 (o.withB l).Y0.h0 (o.withB l).Y0.h1 (o.withB l).Y0.sel (o.withB l).C1 (o.withB l).S0 (o.withB l).A0 (o.withB l).A2 (o.withB l).J1 (o.withB l).B3 (o.withB l).I3 (o.withB l).Q2 (o.withB l).E2=_;unfold nfe';simp only [decide_eq_false (Int.lt_irrefl (b.A0.length:Int)),cond_false]
  rfl) b.A0.length 0 [] (by omega) (by simp)
 have h':=ng' h.1 (by omega)
 rw [ngo' (fun _=>[nom']),n2s',List.nil_append] at h'
 rw [show o.tup=(o.withB []).tup by unfold Mch.withB Mch.tup; rw [ho]]
 exact h'
theorem n24' (b:Bldg) (m:Img) (hl:m.B0.length≤100000) (hcar:∀ e ∈ m.B0,e.O0 < (b.A0.length:Int)) (z o:Mch) (ho:o.J1=[]):nhh' (((),(),(),(),(0:Int),()),(b.tup,m.tup,z.tup,o.tup,()))=some (((),(),()),(z.tup,(o.withE (m.B0.map (nm7' b))).tup,())):=by
 have h:=nz' (step:=fun x=>letI c:=x.2.2.2; letI g:=c.2.1.2; letI a:=g.2.2.2.2; letI h:=c.1.2; letI b:=h.2.2.2.2; letI d:=b.2.2.2.2; letI e:=a.2.2.2.2; letI f:=x.2.1.2.2; letI j:=d.2.2; letI k:=e.2.2; letI l:=f.2.2; letI m:=x.2.2.1; ne9' x.1.2.2.2.2.1 x.2.1.1 x.2.1.2.1 f.1 f.2.1 l.1 l.2.1 l.2.2.1 l.2.2.2.1 m.1 m.2.1 m.2.2.1 m.2.2.2.1 c.1.1 h.1 h.2.1 h.2.2.1 h.2.2.2.1 b.1 b.2.1 b.2.2.1 b.2.2.2.1 d.1 d.2.1 j.1 j.2.1 j.2.2.1 j.2.2.2.1 j.2.2.2.2.1 c.2.1.1 g.1 g.2.1 g.2.2.1 g.2.2.2.1 a.1 a.2.1 a.2.2.1 a.2.2.2.1 e.1 e.2.1 k.1 k.2.1 k.2.2.1 k.2.2.2.1 k.2.2.2.2.1) m.B0.length (fun i (q:List Int)=>(((),(),(),(),(i:Int),()),(b.tup,m.tup,z.tup,(o.withE q).tup,()))) (fun i q=>q++[nm7' b (m.B0.getD i noE)]) (fun i q=>q.length≤i) (fun q=>(((),(),()),(z.tup,(o.withE q).tup,()))) (fun i q hi hq=>by
  refine ⟨?_,by rw [List.length_append,List.length_singleton]; omega⟩
  have hc:=hcar _ (n5' noE hi);have b1:∀ v:Int,Nat.ble ((o.withE q).J1.length + [v].length) 2147483648=true:=fun v=>nh' (by show q.length + 1≤_; omega)
  show ne9' (i:Int) b.D0 b.E0 b.I0 b.Q0 b.J0 b.K0 b.P0 b.A0 m.F0 m.N0 m.H0 m.B0 z.L0.F0 z.L0.N0 z.L0.H0 z.L0.B0 z.Y0.h0 z.Y0.h1 z.Y0.sel z.C1 z.S0 z.A0 z.A2 z.J1 z.B3 z.I3 z.Q2 z.E2 (o.withE q).L0.F0 (o.withE q).L0.N0 (o.withE q).L0.H0 (o.withE q).L0.B0 (o.withE q).Y0.h0 (o.withE q).Y0.h1 (o.withE q).Y0.sel (o.withE q).C1 (o.withE q).S0 (o.withE q).A0 (o.withE q).A2 (o.withE q).J1 (o.withE q).B3 (o.withE q).I3 (o.withE q).Q2 (o.withE q).E2=_;unfold ne9';rw [show Entry.mk 0 0 0 0 false=noE from rfl]
  simp only [decide_eq_true (show (i:Int) < (m.B0.length:Int) by omega),na' (show (0:Int)≤(i:Int) by omega) (show (i:Int) < (m.B0.length:Int) by omega),cond_true,Int.toNat_natCast]
  have hex:nm7' b (m.B0.getD i noE)=bif decide (0≤(m.B0.getD i noE).O0) then (nsh' b (m.B0.getD i noE).O0.toNat).S1 else 0:=rfl;rw [hex];by_cases g:0≤(m.B0.getD i noE).O0
  ·rw [decide_eq_true g,na' g hc]
   simp only [cond_true,Option.bind_some,b1,wrap1 hi (show m.B0.length≤nu' by unfold nu'; omega)]
   rfl
  ·rw [decide_eq_false g]
   simp only [cond_false,cond_true,Option.bind_some,b1,wrap1 hi (show m.B0.length≤nu' by unfold nu'; omega)]
   rfl) (fun q _=>by
  show ne9' (m.B0.length:Int) b.D0 b.E0 b.I0 b.Q0 b.J0 b.K0 b.P0 b.A0 m.F0 m.N0 m.H0 m.B0 z.L0.F0 z.L0.N0 z.L0.H0 z.L0.B0 z.Y0.h0 z.Y0.h1 z.Y0.sel z.C1 z.S0 z.A0 z.A2 z.J1 z.B3 z.I3 z.Q2 z.E2 (o.withE q).L0.F0 (o.withE q).L0.N0 (o.withE q).L0.H0 (o.withE q).L0.B0 (o.withE q).Y0.h0 (o.withE q).Y0.h1 (o.withE q).Y0.sel (o.withE q).C1 (o.withE q).S0 (o.withE q).A0 (o.withE q).A2 (o.withE q).J1 (o.withE q).B3 (o.withE q).I3 (o.withE q).Q2 (o.withE q).E2=_;unfold ne9';simp only [decide_eq_false (Int.lt_irrefl (m.B0.length:Int)),cond_false]
  rfl) m.B0.length 0 [] (by omega) (by simp)
 have h':=ng' h.1 (by omega)
 rw [ngo' (fun i=>[nm7' b (m.B0.getD i noE)]),nla' (fun e=>[nm7' b e]) noE m.B0 0 m.B0.length (by omega),List.drop_zero,nbdh',List.nil_append] at h'
 rw [show o.tup=(o.withE []).tup by unfold Mch.withE Mch.tup; rw [ho]]
 exact h'
theorem n3d' {b:Bldg} (hb:b.small) (m:Img) (hf:m.fit) (hc:b.A0.length≤1000) (s:Sto):nnq' b.D0 b.E0 b.I0 b.Q0 b.J0 b.K0 b.P0 b.A0 m.F0 m.N0 m.H0 m.B0 s.h0 s.h1 s.sel=some (((),(nfl' b m s).2,()),((nfl' b m s).1.tup,())):=by
 unfold nnq' nfl';rw [nwb' hb m (by omega) hf,ngy']
 simp only [Option.bind_some];cases hq:fitsV b m with
 | false=>rfl
 | true=>
  have hm:ImgOK b m:=by
   unfold fitsV at hq;rw [Bool.and_eq_true] at hq;exact Img.ok_iff.1 hq.1
  by_cases hs:s.ok b.I0
  ·rw [decide_eq_true (show Sto.ok b.I0 ⟨s.h0,s.h1,s.sel⟩ from hs)]
   have e:=hf.e
   let o:Mch:=⟨m,s,List.replicate b.A0.length nco',[],List.replicate b.A0.length ncp',List.replicate b.A0.length nd5',[],List.replicate b.A0.length nvg',0,0,0⟩
   have l0:=n36' b hc m Mch.none o rfl;have l1:=n24' b m e (fun x hx=>(nc0'.1 (hm.en x hx)).2.1.2) Mch.none (o.withB (List.replicate b.A0.length nom')) rfl
   simp only [Mch.tup,Img.tup,Bldg.tup,Mch.withB,Mch.withE,Mch.none,Img.none,Sto.no,noB,o] at l0 l1
   have dl:∀ n:Nat,n≤1000→(decide ((0:Int)≤(n:Int))&&decide ((n:Int)≤(n:Int))&&decide ((n:Int)≤(2147483648:Int)))=true:=fun n hn=>by
    rw [decide_eq_true (show (0:Int)≤(n:Int) by omega),decide_eq_true (Int.le_refl (n:Int)),decide_eq_true (show (n:Int)≤2147483648 by omega)]; rfl
   simp only [Bool.not_true,cond_false,cond_true,dl _ hc,Int.toNat_natCast];rw [show Debounced.mk 0 false false false false 0 0 0 0 0 0 0 0 0 0 0 0 0 0 0 0 0 0 0 0 0 0 0 0 0 0 0 0 0 0 0 0 0 0 0 0=nco' from rfl,show NewCar.mk 0 0 0 0 0 false 0 0 0 0 0 0 0 false=ncp' from rfl,show Loaded.mk 0=nd5' from rfl,show Calls.mk 0 0=nvg' from rfl]
   rw [l0];simp only [Option.bind_some];rw [l1];rfl
  ·rw [decide_eq_false (show ¬ Sto.ok b.I0 ⟨s.h0,s.h1,s.sel⟩ from hs)]
   rfl
theorem n47' {b:Bldg} (hb:b.small) (hcode:b.code=0) (s:Sto) (hs:s.cur.size≤5000) {bud:Int} (hbud:bud < 9223372036854775808):nln' b.D0 b.E0 b.I0 b.Q0 b.J0 b.K0 b.P0 b.A0 s.h0 s.h1 s.sel bud=some (((),(bootV b s bud).2.1,(bootV b s bud).2.2,()),((bootV b s bud).1.tup,())):=by
 have hc:=nn' hcode;unfold nln' bootV;rw [nzu' hb hcode s hs hbud];have hf:=n6r' hcode s (by omega) bud
 simp only [Option.bind_some,n9y',Img.tup];generalize nbl' b s bud=w at hf ⊢;cases w.2.2.2 != 0 with
 | true=>rfl
 | false=>
  simp only [cond_false];rw [n3d' hb w.2.1 hf (by omega) w.1]
  simp only [Option.bind_some,Mch.tup];generalize nfl' b w.2.1 w.1=f;cases f.2 != 0 <;> rfl
theorem n3q' {b:Bldg} (hb:b.small) (hcode:b.code=0):njt' b.D0 b.E0 b.I0 b.Q0 b.J0 b.K0 b.P0 b.A0=some (((),(nb3' b).2,()),((nb3' b).1.tup,())):=by
 unfold njt' nb3';rw [hcode];simp only [beq_self_eq_true,cond_true];rw [show nln' b.D0 b.E0 b.I0 b.Q0 b.J0 b.K0 b.P0 b.A0 (ByteArray.mk (Array.mk [])) (ByteArray.mk (Array.mk [])) 0 1048576=_ from n47' hb hcode Sto.no (by decide) (bud:=1048576) (by omega)]
 rfl
theorem nwo' (s:Sto):Mch.fit { Mch.none with Y0:=s }:=⟨⟨Nat.zero_le _,Nat.zero_le _,Nat.zero_le _,Nat.zero_le _⟩,Nat.zero_le _,Nat.zero_le _,(fun x h=>by cases h),Nat.zero_le _,Nat.zero_le _,Nat.zero_le _,Nat.zero_le _⟩
theorem n7y' {b:Bldg} {m:Img} (hf:m.fit) (hc:b.A0.length≤1000) (s:Sto):(nfl' b m s).1.fit:=by
 unfold nfl';cases fitsV b m&&decide (s.ok b.I0) with
 | true=>exact nbbb' hf hc s
 | false=>exact nwo' Sto.no
theorem nbba' {b:Bldg} (hcode:b.code=0) (s:Sto) (hs:s.cur.size≤500000) (bud:Int):(bootV b s bud).1.fit:=by
 have hc:=nn' hcode;have hf:=n6r' hcode s hs bud;unfold bootV;generalize nbl' b s bud=w at hf ⊢;cases w.2.2.2 != 0 with
 | true=>exact nwo' w.1
 | false=>
  simp only [cond_false];have h:=n7y' (b:=b) hf (by omega) w.1
  generalize nfl' b w.2.1 w.1=f at h ⊢;cases f.2 != 0 with
  | true=>exact nwo' Sto.no
  | false=>exact h
end Go.Ovl
