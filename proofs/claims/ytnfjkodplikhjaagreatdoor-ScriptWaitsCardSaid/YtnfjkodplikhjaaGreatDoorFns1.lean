import Derived.Test.YtnfjkodplikhjaaGreatDoorSig
import Derived.Test.YtnfjkodplikhjaaGreatDoorDefs5
import Derived.Test.YtnfjkodplikhjaaGreatDoorAbC
import Derived.Test.YtnfjkodplikhjaaGreatDoorHandD
set_option linter.all false
open Go.Ab renaming ci->A,oi->B,op->C,ob->D,cw->H,c4->J,oA->N,ia->O,cr->U,js->V,cb->W,oro->Y,rt->Z,ow->i,sh->z,CSh->aA,lpX->aC
open Option renaming some->aB,bind->aK
open Go.Ovl renaming sigOK->aD
open Array renaming mk->aE
open ByteArray renaming mk->aF
open Go.Ab.Fe renaming mk->aG
open Go.IntKind renaming i64->aH
open Sum renaming inr->aI,inl->aJ
namespace Go.Ovl
open Go Go.Ab Go.Proofs Go.Proofs.Tryz
set_option maxRecDepth 100000
noncomputable section
def c'0:List aA:=[A,A,A,A,cf,cf,cf,H 0 83]
def c'1:List aA:=[A,A,A,A,cf,cf,cf,H 1 83]
def c'2:List aA:=[A,A,A,A,cf,cf,cf,U 83]
def c'3:List aA:=[A,A,A,A,A,A,A,A,A]
def c'4:List aA:=[H 0 3,H 1 4,H 2 4,H 3 68]
def c'5:List aA:=[U 3,U 4,U 4,U 68]
def c'6:List aA:=[H 1 3,H 2 4,H 3 4,H 4 68]
def c'7:List aA:=[H 5 3,H 6 4,H 7 4,H 8 68]
def c'8:List aA:=[H 4 3,H 5 4,H 6 4,H 7 68]
def c'9:List aA:=[.np 65536 151,H 0 5]
def Wa:List aA:=[A,A,A,H 0 191,A,W]
def RZ:List aA:=[H 0 3,H 1 4,H 2 4,H 3 68,cs,cs,A,H 4 130,H 5 134,H 6 142,H 7 144,H 8 3,H 9 66,A,A,A]
def Ad0:List aA:=[H 10 3,H 11 4,H 12 4,H 13 68,cs,cs,A,H 14 130,H 15 134,H 16 142,H 17 144,H 18 3,H 19 66,A,A,A]
def Jo:List aA:=[A,A,A,A,A,A,J,J,J]
def JX:List aA:=[A,A,A,A,A,A]
def NZ:List aA:=[H 0 3,H 1 4,H 2 4,H 3 68,cs,cs,A,H 4 130,H 5 134,H 6 142,H 7 144,H 8 3,H 9 66,A,A,A,H 10 88,H 11 90]
def Bnk:List aA:=[H 12 3,H 13 4,H 14 4,H 15 68,cs,cs,A,H 16 130,H 17 134,H 18 142,H 19 144,H 20 3,H 21 66,A,A,A,H 22 88,H 23 90]
def Wb:List aA:=[J,W,W,W,W,A,A,A,A,A,A,A,A,A,A,A,A,A,A,A,A,A,A,A,A,A,A,A,A,A,A,A,A,A,A,A,A,A,A,A,A]
def By0:List aA:=[A,A,A,A,A,A,A,A,A,A,A,A,A,A,A,A,A,A,A,A,A,A,A,A,A,A,A,A,A,A,A,A,A,A,A,A]
def Oa:List aA:=[A,A,A,U 191,A,W]
def Ma:List aA:=[A,A,A,A,A,W,A,A,A,A,J,A,A,W]
def HX:List aA:=[U 3,U 4,U 4,U 68,cs,cs,A,U 130,U 134,U 142,U 144,U 3,U 66,A,A,A]
def Lj:List aA:=[U 3,U 4,U 4,U 68,cs,cs,A,U 130,U 134,U 142,U 144,U 3,U 66,A,A,A,U 88,U 90]
def ZK:List aA:=[J,J,A,A,U 63,U 3,U 4,U 25,W]
def ZL:List aA:=[J,J,A,A,H 0 217]
def Bnl:List aA:=[J,J,A,A,H 1 217]
def By1:List aA:=[J,W,W,W,W,A,W,A,W,J,cf]
def Bes:List aA:=[J,J,A,A,U 217]
def JY:List aA:=[cs,A,A,A,A,cf,cf,cf,U 83]
def Awh:List aA:=[A,A,A,A,cf,cf,cf,U 83,U 3,U 4,U 4,U 68,cs,cs,A,H 0 130,H 1 134,H 2 142,H 3 144,U 3,U 66,A,A,A,J,J,A,A,H 4 217,W,A,A,H 5 4,H 6 66,H 7 4,J,J,J,J,W,W,A,H 8 181]
def Cs:List aA:=[A,A,A,A,cf,cf,cf,U 83,U 3,U 4,U 4,U 68,cs,cs,A,H 0 130,H 1 134,H 2 142,H 3 144,U 3,U 66,A,A,A,J,J,A,A,U 217,W,A,A,H 4 4,H 5 66,H 6 4,J,J,J,J,W,W,A,H 7 181]
def Ai0:List aA:=[A,A,A,H 1 191,A,W]
def Hp:List aA:=[A,A,A,A,cf,cf,cf,U 83,A,A,A,A,A,A,W,A,A,A,A,J,A,A,W,A,W,A,W,A]
def KH:List aA:=[W,W,W,A,A,A]
def ZM:List aA:=[A,A,A,A,cf,cf,cf,U 83,U 3,U 4,U 4,U 68,cs,cs,A,H 1 130,H 2 134,H 3 142,H 4 144,U 3,U 66,A,A,A,J,J,A,A,U 217,W,A,A,H 5 4,H 6 66,H 7 4,J,J,J,J,W,W,A,H 8 181]
def Sa:List aA:=[U 3,U 4,U 4,U 68,A,W]
def Wc:List aA:=[W,W,W,W,A,A,A,J,J,J,J,J]
def Awi:List aA:=[H 0 66,H 1 4,J,J]
def Bnm:List aA:=[H 2 66,H 3 4,J,J]
def Wd:List aA:=[H 0 315,H 1 3,H 2 4,H 3 4,H 4 68,H 5 3,H 6 66,H 7 4,J,J,J,J,A,A,A,A,cf,cf,cf,U 83]
def By2:List aA:=[H 1 315,H 2 3,H 3 4,H 4 4,H 5 68,H 6 3,H 7 66,H 8 4,J,J,J,J,A,A,A,A,cf,cf,cf,U 83]
def Ad1:List aA:=[A,A,A,A,cf,cf,cf,U 83,U 451]
def Bet:List aA:=[H 0 315,H 1 3,H 2 4,H 3 4,H 4 68,H 5 3,H 6 66,H 7 4,J,J,J,J]
def By3:List aA:=[H 8 315,H 9 3,H 10 4,H 11 4,H 12 68,H 13 3,H 14 66,H 15 4,J,J,J,J,A,A,A,A,cf,cf,cf,U 83]
def By4:List aA:=[H 0 315,H 1 3,H 2 4,H 3 4,H 4 68,U 3,U 66,H 5 4,J,J,J,J]
def By5:List aA:=[A,A,A,A,cf,cf,cf,U 83,U 3,U 4,U 4,U 68,cs,cs,A,H 6 130,H 7 134,H 8 142,H 9 144,U 3,U 66,A,A,A,J,J,A,A,U 217,W,A,A,H 10 4,H 11 66,H 12 4,J,J,J,J,W,W,A,H 13 181]
def By6:List aA:=[A,A,A,A,cf,cf,cf,U 83,U 3,U 4,U 4,U 68,cs,cs,A,H 8 130,H 9 134,H 10 142,H 11 144,U 3,U 66,A,A,A,J,J,A,A,U 217,W,A,A,H 12 4,H 13 66,H 14 4,J,J,J,J,W,W,A,H 15 181]
def Beu:List aA:=[U 315,H 0 3,H 1 4,H 2 4,H 3 68,U 3,U 66,H 4 4,J,J,J,J]
def Bev:List aA:=[A,A,A,A,cf,cf,cf,U 83,U 3,U 4,U 4,U 68,cs,cs,A,H 5 130,H 6 134,H 7 142,H 8 144,U 3,U 66,A,A,A,J,J,A,A,U 217,W,A,A,H 9 4,H 10 66,H 11 4,J,J,J,J,W,W,A,H 12 181]
def By7:List aA:=[A,A,A,H 2 191,A,W]
def Ad2:List aA:=[.clo 199 [(65536,0)] [],.clo 200 [(65536,0)] [],.clo 201 [(65536,0)] [],.clo 202 [(65536,0)] [],.clo 203 [(65536,0)] []]
def By8:List aA:=[J,J,J,J,W,W,A,H 10 181]
def By9:List aA:=[A,A,A,A,cf,cf,cf,U 83,U 3,U 4,U 4,U 68,cs,cs,A,H 11 130,H 12 134,H 13 142,H 14 144,U 3,U 66,A,A,A,J,J,A,A,U 217,W,A,A,H 15 4,H 16 66,H 17 4,J,J,J,J,W,W,A,H 18 181]
def Bnn:List aA:=[U 3,U 4,U 4,U 68,cs,cs,A,H 0 130,H 1 134,H 2 142,H 3 144,U 3,U 66,A,A,A]
def Bno:List aA:=[J,J,J,J,W,W,A,H 4 181]
def Ao7:List aA:=[U 3,U 4,U 4,U 68,cs,cs,A,H 0 130,H 1 134,H 2 142,H 3 144,U 3,U 66,A,A,A,H 4 88,H 5 90]
def Awj:List aA:=[J,J,J,J,W,W,A,H 12 181]
def Bew:List aA:=[U 3,U 4,U 4,U 68,cs,cs,A,H 13 130,H 14 134,H 15 142,H 16 144,U 3,U 66,A,A,A,H 17 88,H 18 90]
def We:List aA:=[J,J,J,J,W,W,A,U 181]
def Bnp:List aA:=[J,J,W,J,J,W,A,A,W]
def Bza:List aA:=[H 12 3,H 13 4,H 14 4,H 15 68,cs,cs,A,H 16 130,H 17 134,H 18 142,H 19 144,H 20 3,H 21 66,A,A,A]
def Bex:List aA:=[A,A,A,A,cf,cf,cf,U 83,U 3,U 4,U 4,U 68,cs,cs,A,U 130,U 134,U 142,U 144,U 3,U 66,A,A,A,U 88,U 90,J,J,A,A,H 0 63,U 3,H 1 4,H 2 25,W,H 3 3,A,H 4 92]
def Bzb:List aA:=[J,J,A,A,H 0 63,U 3,H 1 4,H 2 25,W]
def Bzc:List aA:=[A,A,A,A,cf,cf,cf,U 83,U 3,U 4,U 4,U 68,cs,cs,A,U 130,U 134,U 142,U 144,U 3,U 66,A,A,A,U 88,U 90,J,J,A,A,H 3 63,U 3,H 4 4,.sh 32770,W,H 5 3,A,H 6 92]
def Bzd:List aA:=[J,J,A,A,H 1 63,H 2 3,H 3 4,H 4 25,W]
def Bze:List aA:=[J,J,A,A,H 5 63,U 3,H 6 4,H 7 25,W]
def Bzf:List aA:=[A,A,A,A,cf,cf,cf,U 83,U 3,U 4,U 4,U 68,cs,cs,A,U 130,U 134,U 142,U 144,U 3,U 66,A,A,A,U 88,U 90,J,J,A,A,.sh 32773,U 3,H 8 4,.sh 32775,W,.sh 32768,A,H 9 92]
def Bzg:List aA:=[J,J,A,A,H 0 63,H 1 3,H 2 4,H 3 25,W]
def Bzh:List aA:=[J,J,A,A,H 4 63,U 3,H 5 4,H 6 25,W]
def Bzi:List aA:=[A,A,A,A,cf,cf,cf,U 83,U 3,U 4,U 4,U 68,cs,cs,A,U 130,U 134,U 142,U 144,U 3,U 66,A,A,A,U 88,U 90,J,J,A,A,.sh 32772,U 3,H 7 4,.sh 32774,W,H 8 3,A,H 9 92]
def Bey:List aA:=[U 3,U 4,U 4,U 68,cs,cs,A,H 1 130,H 2 134,H 3 142,H 4 144,U 3,U 66,A,A,A,H 5 88,H 6 90]
def Bnq:List aA:=[A,A,A,A,cf,cf,cf,U 83,U 3,U 4,U 4,U 68,cs,cs,A,U 130,U 134,U 142,U 144,U 3,U 66,A,A,A,U 88,U 90,J,J,A,A,H 7 63,U 3,H 8 4,H 9 25,W,H 10 3,A,H 11 92]
def Awk:List aA:=[A,A,A,A,cf,cf,cf,U 83,U 3,U 4,U 4,U 68,cs,cs,A,H 0 130,H 1 134,H 2 142,H 3 144,U 3,U 66,A,A,A,H 4 88,H 5 90,J,J,A,A,H 6 63,U 3,H 7 4,H 8 25,W,H 9 3,A,H 10 92]
def Bnr:List aA:=[A,A,A,A,cf,cf,cf,U 83,H 12 3,H 13 4,H 14 4,H 15 68,cs,cs,A,H 16 130,H 17 134,H 18 142,H 19 144,H 20 3,H 21 66,A,A,A,H 22 88,H 23 90,J,J,A,A,H 24 63,H 25 3,H 26 4,H 27 25,W,H 28 3,A,H 29 92]
def Awl:List aA:=[A,A,A,A,cf,cf,cf,U 83,U 3,U 4,U 4,U 68,cs,cs,A,H 12 130,H 13 134,H 14 142,H 15 144,U 3,U 66,A,A,A,H 16 88,H 17 90,J,J,A,A,H 18 63,U 3,H 19 4,H 20 25,W,H 21 3,A,H 22 92]
def Bns:List aA:=[cs,A,A,A,A,A]
def Bnt:List aA:=[U 3,U 4,U 4,U 68,cs,cs,A,H 2 130,H 3 134,H 4 142,H 5 144,U 3,U 66,A,A,A,H 6 88,H 7 90]
def Bnu:List aA:=[U 3,U 4,U 4,U 68,cs,cs,A,H 8 130,H 9 134,H 10 142,H 11 144,U 3,U 66,A,A,A,H 12 88,H 13 90]
def cx:Ctx prog G:=⟨aD,Bzl,Bzo⟩
abbrev K:=Dq prog G
abbrev KS(l:List (Nat×Fe G)):=∀p∈l,Dq prog G p.1 p.2
abbrev LP:=Nat->St G->M (Ex×St G)
abbrev LK(f:Func)(lp:LP)(n:Nat):=LoopOK prog G f.ntmps (lp n) (Px (Bf f) n)
def aa{Q:Nat->Code->Prop}{n:Nat}{l l':List Code}(h':II Q n l')(h:l=l':=by kernel_rfl):II Q n l:=Aos l' h h'
structure KP where
 g:Nat
 e:Fe G
 k:K g e
def KL(l:List KP):List<|Nat×Fe G:=l.map λp=>(p.g,p.e)
def KLs(l:List KP):KS<|KL l:=λp h=>by obtain⟨q,_,rfl⟩:=b3_.1 h;exact q.k
def lk0(l:List KP)(jn:Nat->Option SL){lp:LP}(n:Nat){nt k:Nat}{c:Code}(S:Sp)(E:SL)(L:S.T G->Option (Ev G E)){R:S.T G->Option (Sum (S.T G)<|Ev G E)}(hL:L=iter R Db:=by rfl)(hP:lp k=aC S E L:=by kernel_rfl)(hin:II (λk c=>LoopOK prog G nt (lp k) c) n<|Bl c:=by exact an0 κ)(hR:∀x,Afc (cfQ<|KL l) lp jn nt n c S E x=R x:=by intro x;kernel_rfl):LoopOK prog G nt (lp k) c:=lk cx (KLs l) jn n S E hL hP hin hR
def hq{g:Nat}{fn:Func}(_:prog.funcs[g]?=aB fn)(I:Sp)(E:SL)(F:I.F G<|Option<|Ev G E){e:Fe G}(p:K g e)(he:e=fe fn I E F:=by kernel_rfl):KP:=⟨g,fe fn I E F,he▸p⟩
section
variable{g:Nat}{fn:Func}(hfn:prog.funcs[g]?=aB fn)(I:Sp)(E:SL)(F:I.F G (Option (Ev G E)))(l:List KP)(jn:Nat->Option SL)
def fk1 (lp : LP) (hlp : II (λk c => LoopOK prog G fn.ntmps (lp k) c) 0<|Bl<|Bf fn) (hc : (!(fn.name == "runtime.NumGoroutine") && Nat.ble I.tm.length fn.ntmps) = true := by kernel_rfl) (p0 : fn.body = aB (Bf fn) := by kernel_rfl) (hF : ∀ x, Uj (cfQ<|KL l) lp jn fn.ntmps (Bf fn) I E x = I.ap F x := by intro x; kernel_rfl) : KP := ⟨g, fe fn I E F, fk cx (KLs l) jn hfn hc p0 rfl hlp hF⟩
def fkl (S : Sp) (X : SL) (L : S.T G -> Option (Ev G X)) {R : S.T G -> Option (Sum (S.T G)<|Ev G X)} (hL : L = iter R Db := by rfl) (ho : Bl (Bf fn) = [Px (Bf fn) 0] := by kernel_rfl) (hi : Bl (Px (Bf fn) 0) = [] := by kernel_rfl) (hR : ∀ x, Afc (cfQ<|KL l) (pl [aC S X L]) jn fn.ntmps 1 (Px (Bf fn) 0) S X x = R x := by intro x; kernel_rfl) (hc : (!(fn.name == "runtime.NumGoroutine") && Nat.ble I.tm.length fn.ntmps) = true := by kernel_rfl) (hbody : fn.body = aB (Bf fn) := by kernel_rfl) (hF : ∀ x, Uj (cfQ<|KL l) (pl [aC S X L]) jn fn.ntmps (Bf fn) I E x = I.ap F x := by intro x; kernel_rfl) : KP := fk1 hfn I E F l jn (pl [aC S X L]) (Aos _ ho<|AM (lk cx (KLs l) jn 1 S X hL rfl (an0 hi) hR) CC) hc hbody hF
def fkj (hlp : II (λk c => LoopOK prog G fn.ntmps (pl [] k) c) 0 (Bl<|Bf fn) := by exact an0 κ) (hc : (!(fn.name == "runtime.NumGoroutine") && Nat.ble I.tm.length fn.ntmps) = true := by kernel_rfl) (p0 : fn.body = aB (Bf fn) := by kernel_rfl) (hF : ∀ x, Uj (cfQ<|KL l) (pl []) jn fn.ntmps (Bf fn) I E x = I.ap F x := by intro x; kernel_rfl) : KP := fk1 hfn I E F l jn (pl []) hlp hc p0 hF
def fk0 (hlp : II (λk c => LoopOK prog G fn.ntmps (pl [] k) c) 0 (Bl<|Bf fn) := by exact an0 κ) (hc : (!(fn.name == "runtime.NumGoroutine") && Nat.ble I.tm.length fn.ntmps) = true := by kernel_rfl) (p0 : fn.body = aB (Bf fn) := by kernel_rfl) (hF : ∀ x, Uj (cfQ<|KL l) (pl []) (V []) fn.ntmps (Bf fn) I E x = I.ap F x := by intro x; kernel_rfl) : KP := fk1 hfn I E F l (V []) (pl []) hlp hc p0 hF
end
def Q0:=fkl func84 (O [B,B]) (rh [(4,C 64)] [(64,c'0)]) OB [] (V []) (z [(0,B),(1,B),(4,C 64),(5,C 80),(6,B)] [(64,c'0),(80,c'1)]) [xh 0 [(4,C 64),(5,C 80)] [(64,c'0),(80,c'1)]] Qa
def Q1:=fkl func52 (O [o1,o1]) (rh [(4,C 64)] [(64,c'0)]) Mr [Q0] (V []) (z [(1,o1),(4,C 64),(5,C 80),(6,B)] [(64,c'0),(80,c'1)]) [xh 0 [(1,o1),(4,C 64),(5,C 80)] [(64,c'0),(80,c'1)]] NR
def Q2:=fkl func22 (O [o1,o1]) (rh [(4,C 64)] [(64,c'0)]) PT [Q1] (V []) (z [(1,o1),(4,C 64),(5,C 80),(6,B)] [(64,c'0),(80,c'1)]) [xh 0 [(4,C 64),(5,C 80)] [(64,c'0),(80,c'1)]] NS
def Q3:=fkl func10 (O [N [c1,c1,c1]]) (rh [(2,C 32)] [(32,c'0)]) Ms [Q2] (V []) (z [(1,C 16),(2,C 32),(3,C 48),(4,B)] [(16,[c1,c1,c1]),(32,c'0),(48,c'1)]) [xh 0 [(2,C 32),(3,C 48)] [(32,c'0),(48,c'1)]] KA
def Q4:=fkj func53 (O [B,B,B]) (Z [(6,D)]) Jm []<|V [(1,jn [(6,D)])]
def Q5:=fkl func54 (O [N c'2,N c'3]) (Z [(4,D)]) QD [Q4] (V [(9,jn [(4,D)])]) (z [(2,C 32),(3,C 48),(5,i 0 3),(6,B)] [(32,c'2),(48,c'3)]) [xh 0 [(2,C 32),(3,C 48)] [(32,c'2),(48,c'3)],rx [(4,D)]] RV
def Q6:=fkl func23 (O [N c'2]) (Z [(2,B)]) Nc [Q4,Q5] (V [(5,jh [(1,C 16),(3,D)] [(16,c'2)]),(9,jh [(1,C 16),(3,D),(4,B)] [(16,c'2)])]) (z [(1,C 16),(3,D),(4,B)] [(16,c'2)]) [xh 0 [(1,C 16),(3,D)] [(16,c'2)]] RU
def Q7:=fk0 func24 (O [N c'2,B]) (Z [(4,B)]) RQ [Q6]
def Bmv:Sp:=z [(1,C 16),(2,C 32),(3,B)] [(16,c'0),(32,c'1)]
def Bnb:SL:=[xh 0 [(1,C 16),(2,C 32)] [(16,c'0),(32,c'1)]]
def Bmw:Sp:=z [(1,C 16),(2,C 32),(5,B)] [(16,c'0),(32,c'1)]
def Bnc:SL:=[xh 2 [(1,C 16),(2,C 32)] [(16,c'0),(32,c'1)]]
def t8:List KP:=[Q6,Q7]
def P8:LP:=pl [aC Bmv Bnb QF,aC Bmw Bnc QG]
def Bzx:LK f11 P8 1:=lk0 t8 (V []) 2 Bmw Bnc QG
def Bzw:LK f11 P8 0:=lk0 t8 (V []) 1 Bmv Bnb QF
def Q8:=fk1 func11 (O [N c'2]) (rh [(2,C 32)] [(32,c'2)]) Zp t8 (V []) P8<|aa<|AM Bzw<|AM Bzx CC
def Q9:=fkj func4 (O [N [c1,c1,c1]]) (rh [(2,C 32)] [(32,c'2)]) HB [Q3,Q8]<|V [(1048579,jh [(2,C 32),(3,C 48)] [(32,c'0),(48,c'2)])]
def Q10:=fkj func25 (O [N [J,J],B,B]) (Z [(6,D)]) Aks []<|V [(3,jn [(6,D)])]
def Bhg:Sp:=z [(1,C 16),(3,i 0 68),(4,B)] [(16,[J,J])]
def Bhu:SL:=[xt 0 [(3,i 0 68)]]
def Bhh:Sp:=z [(1,C 16),(3,i 0 68),(4,B),(5,B)] [(16,[J,J])]
def Bhv:SL:=[xh 2 [(1,C 16),(3,i 0 68),(4,B)] [(16,[J,J])]]
def t11:List KP:=[Q10]
def P11:LP:=pl [aC Bhg Bhu TF,aC Bhh Bhv TG]
def Bij:LK f12 P11 1:=lk0 t11 (V []) 2 Bhh Bhv TG
def Bsr:LK f12 P11 0:=lk0 t11 (V []) 1 Bhg Bhu TF (hin:=(aa<|AM Bij CC))
def Q11:=fk1 func12 (O [N [J,J]]) (Z [(2,i 0 68)]) SA t11 (V []) P11<|aa<|AM Bsr<|AM Bij CC
def Q12:=fkl func13 (O [Y 56]) (Z [(2,B)]) VW [] (V []) (sp [(0,Y 56),(3,B),(4,B)]) [xt 0 [(3,B)]] YW
def Q13:=fkl func5 (O [N c'2,Y 5,B]) (Z [(6,i 0 56)]) OC [Q11,Q12] (jl [(26,jh [(1,Y 5),(3,C 48),(7,i 0 56),(8,B),(9,B),(12,C 192)] [(48,c'2),(192,[A,A,A,A,A])])]) (z [(1,Y 5),(3,C 48),(7,i 0 56),(8,B),(9,B)] [(48,c'2)]) [xt 0 [(7,i 0 56)]] WA
def Q14:=fkl func55 (O [B,B,Y 3]) (Z [(6,D)]) BE [] (V []) (sp [(0,B),(1,B),(9,Y 3),(10,B),(11,B)]) [xt 0 [],rx [(6,D)]] Li
def Q15:=fkj func56 (O [N c'3,B]) (Z [(4,D)]) Ko [Q14]<|V [(1,jn [(4,D)])]
def Q16:=fkj func57 (O [N c'2]) (Z [(2,D)]) Kn []<|V [(1,jn [(2,D)])]
def Q17:=fkl func26 (O [N c'2]) (Z [(2,B)]) Ak [Q14,Q15,Q16] (V [(5,jh [(1,C 16),(3,D)] [(16,c'2)]),(9,jh [(1,C 16),(3,D),(28,Y 83),(29,B),(30,B)] [(16,c'2)])]) (z [(1,C 16),(3,D),(28,Y 83),(29,B),(30,B)] [(16,c'2)]) [xh 0 [(1,C 16),(3,D)] [(16,c'2)]] LW
def Q18:=fkj func59 (O [B,B,B]) (Z [(6,D)]) GX []<|V [(1,jn [(6,D)])]
def Q19:=fkj func85 (O [B,B,B]) (Z [(6,D)]) Jv [Q14]<|V [(1,jn [(6,D)])]
def Q20:=fkj func60 (O [N c'2,B,B]) (Z [(6,D)]) Ee [Q17,Q19]<|V [(1,jn [(6,D)])]
def Q21:=fkj func29 (O [N c'2,N [A,A,A,A,A]]) (Z [(4,D)]) HF [Q18,Q20]<|jm [5,7,9,11,13,15,17,19] (jn [(4,D)])<|V [(2,jh [(2,C 32),(3,C 48),(5,D),(6,D)] [(32,c'2),(48,[A,A,A,A,A])])]
def Q22:=fk0 func28 (z [(0,N [A,A,A,A,A]),(1,C 65536)] [(65536,c'2)]) (ru [(3,D)] [(65536,c'2)]) Iu [Q21]
def Q23:=fkl func58 (z [(0,Y 56),(1,.one<|.clo 28 [] [(65536,0)])] [(65536,c'2)]) (ru [(4,B)] [(65536,c'2)]) Be [Q22] (V []) (su [(0,Y 56),(1,.one<|.clo 28 [] [(65536,0)]),(7,B),(8,B)] [(65536,c'2)]) [xu 0 [] [(65536,c'2)],ry [(4,B)] [(65536,c'2)]] Bc
def Q24:=fk0 func27 (z [(0,Y 56),(1,.one<|.clo 28 [] [(65536,0)])] [(65536,c'2)]) (ru [(4,D)] [(65536,c'2)]) AX [Q23]
def Q25:=fkj func14 (O [N c'2,Y 56]) (Z [(4,D)]) MA [Q17,Q24]<|V [(1,jn [(4,D)])]
def Q26:=fkl func15 (O [Y 56]) (Z [(2,B)]) JN [] (V []) (sp [(3,B),(6,Y 56),(7,B),(8,B)]) [xt 0 [(3,B)]] TK
def Q27:=fk0 func180 (O [N c'2]) (rh [(2,C 32)] [(32,c'4)]) Ns [Q17]
def Q28:=fk0 func182 (O [N [cs,cs,A]]) (Z [(2,os)]) IR []
def Bhi:Sp:=sp [(0,os),(3,o1),(7,B),(8,B)]
def Bhw:SL:=[xt 0 [(3,o1)]]
def Bhj:Sp:=sp [(0,os),(3,o1),(7,B),(8,B),(16,B)]
def Bhx:SL:=[xt 2 [(0,os),(3,o1),(7,B),(8,B)]]
def P29:LP:=pl [aC Bhi Bhw OL,aC Bhj Bhx OM]
def Bik:LK f227 P29 1:=lk0 [] (V []) 2 Bhj Bhx OM
def Bss:LK f227 P29 0:=lk0 [] (V []) 1 Bhi Bhw OL (hin:=(aa<|AM Bik CC))
def Q29:=fk1 func227 (O [os]) (Z [(2,o1)]) Ow [] (V []) P29<|aa<|AM Bss<|AM Bik CC
def Q30:=fkj func273 (O [B,B,B]) (Z [(6,D)]) Fv []<|V [(1,jn [(6,D)])]
def Q31:=fkj func226 (O [N c'2,N [A,A,A,A,A]]) (Z [(4,D)]) HD [Q17,Q20,Q30]<|jm [8,10,12,14,17] (jn [(4,D)])<|V [(4,jh [(2,C 32),(3,C 48),(5,D),(6,D)] [(32,c'2),(48,[A,A,A,A,A])])]
def Q32:=fk0 func217 (O [N c'2,os]) (rh [(4,C 64),(5,B)] [(64,[A,A,A,A,A])]) Lx [Q17,Q29,Q31]
def Q33:=fkl func181 (O [N c'2,os]) (Z [(4,i 0 315),(5,B)]) Nx [Q32] (V []) (z [(1,os),(2,C 32),(6,i 0 315),(7,B)] [(32,c'2)]) [xt 0 [(6,i 0 315),(7,B)]] Pa
def Q34:=fk0 func274 (O [B]) (Z [(2,D)]) Lp []
def Q35:=fk0 func233 (O [B,B]) (Z [(4,B)]) Ef [Q34]
def Q36:=fkl func232 (O [Y 3]) (Z [(2,B)]) LN [] (V []) (sp [(3,B),(6,Y 3),(7,B),(8,B)]) [xt 0 [(3,B)],rx [(2,B)]] PZ
def Q37:=fk0 func222 (O [N [A,A,A,A,W],N [A,A,A,A,W]]) (Z [(4,B)]) IA [Q35,Q36]
def Q38:=fkl func270 (O [Y 68,N [A,A,A,A,W],.one<|.clo 222 [] []]) (Z [(6,B),(7,D)]) AS [Q37] (V [(8,jn [(6,B),(7,D)])]) (z [(0,Y 68),(2,.one<|.clo 222 [] []),(4,C 64),(8,B),(9,B),(10,B)] [(64,[A,A,A,A,W])]) [xh 0 [(0,Y 68),(2,.one<|.clo 222 [] []),(4,C 64),(8,B),(9,B)] [(64,[A,A,A,A,W])]] AQ
def Q39:=fk0 func218 (O [N c'5,B,B]) (Z [(6,B),(7,D)]) OG [Q38]
def Q40:=hq func219 (sp [(0,i 0 68),(1,B),(2,i 1 68)]) (Z [(6,i 0 68)]) DA<|Aeq (r:=6) (t:=68) aD ⟨_,Tryz.func219,κ,κ⟩ (by intro h;cases h) (λ_=>rfl)<|Aen
def Q41:=hq func220 (sp [(0,i 0 68),(1,B),(2,B)]) (Z [(6,i 0 68)]) Dz<|Apx (r:=6) (t:=68) aD ⟨_,Tryz.func220,κ,κ⟩ (by intro h;cases h) (λ_=>rfl)<|Ad7
def Q42:=fk0 func183 (z [(0,C 65536),(1,N [A,A,A,A,A])] [(65536,c'4)]) (nu [] [(65536,c'4)]) LR [Q39,Q40,Q41]
def Q43:=fkl func128 (O [N c'2,N [cs,cs,A]]) (rh [(4,C 64)] [(64,c'4)]) OF [Q27,Q28,Q33,Q42] (V []) (z [(4,C 64),(5,C 80),(19,i 0 315),(20,B),(21,B)] [(64,c'6),(80,c'7)]) [xh 0 [(4,C 64),(5,C 80)] [(64,c'4),(80,c'8)]] Qb
def Q44:=fkj func131 (O [B,N [cs,cs,A]]) (Z [(4,D)]) Ej []<|V [(1,jn [(4,D)])]
def Q45:=fkj func221 (O [N c'2,N [A,A,A,A,W]]) (Z [(4,D)]) Nu [Q20]<|V [(1,jn [(4,D)])]
def Bhk:Sp:=z [(2,C 32),(3,C 48),(38,Y 3),(39,B),(40,B)] [(32,c'2),(48,c'5)]
def Bhy:SL:=[xh 0 [(2,C 32),(3,C 48)] [(32,c'2),(48,c'5)],rx [(4,D)]]
def Bhl:Sp:=z [(2,C 32),(3,C 48),(52,Y 68),(53,B),(54,B)] [(32,c'2),(48,c'5)]
def Bhz:SL:=[xt 2 [],rx [(4,D)]]
def J46:=V [(13,jh [(2,C 32),(3,C 48),(52,Y 68),(53,B),(54,B),(77,D)] [(32,c'2),(48,c'5)])]
def t46:List KP:=[Q17,Q45,Q37]
def P46:LP:=pl [aC Bhk Bhy LA,aC Bhl Bhz LB]
def Bsu:LK f184 P46 1:=lk0 t46 J46 2 Bhl Bhz LB
def Bst:LK f184 P46 0:=lk0 t46 J46 1 Bhk Bhy LA
def Q46:=fk1 func184 (O [N c'2,N c'5]) (Z [(4,D)]) Cj t46 J46 P46<|aa<|AM Bst<|AM Bsu CC
def Q47:=fk0 func223 (z [(0,B),(1,B),(2,C 65536),(3,C 65537)] [(65536,[H 0 315]),(65537,[A])]) [(.normal,⟨[],[(65536,[H 0 315]),(65537,[A])],[65536,65537]⟩)] HS []
def Q48:=fk0 func224 (O [D]) (Z [(2,B)]) JJ []
def Q49:=fk0 func225 (z [(0,B),(1,B),(2,B),(3,C 65536),(4,C 65537)] [(65536,[H 0 315]),(65537,[A,A,A,A,W])]) [(.normal,⟨[],[(65536,[H 0 315]),(65537,[A,A,A,A,W])],[65536,65537]⟩)] HT []
def Bhm:Sp:=z [(3,C 48),(5,C 80),(17,B),(18,B)] [(48,c'5),(80,[H 0 315])]
def Bh0:SL:=[xh 0 [(3,C 48),(5,C 80)] [(48,c'5),(80,[H 0 315])]]
def Bhn:Sp:=z [(5,C 80),(47,Y 68),(48,B),(49,B)] [(80,[H 0 315])]
def Bh1:SL:=[xh 2 [(5,C 80)] [(80,[H 0 315])]]
def t50:List KP:=[Q46,Q47,Q48,Q49]
def P50:LP:=pl [aC Bhm Bh0 KB,aC Bhn Bh1 KC]
def Bsw:LK f185 P50 1:=lk0 t50 (V []) 2 Bhn Bh1 KC
def Bsv:LK f185 P50 0:=lk0 t50 (V []) 1 Bhm Bh0 KB
def Q50:=fk1 func185 (O [N c'2,N c'5]) (Z [(4,i 0 315)]) Mu t50 (V []) P50<|aa<|AM Bsv<|AM Bsw CC
def Q51:=fk0 func186 (O [N c'2,N [A,A,A,A,A]]) (Z [(4,os),(5,B)]) IN [Q31,Q29]
def Q52:=hq func49 (z [(0,C 65536),(1,os)] [(65536,c'9)]) (ru [(4,B),(5,.one .nili)] [(65536,c'9)]) CM<|Bk2 (tb:=151) (te:=5) aD ⟨_,Tryz.func49,κ,κ⟩ (by intro h;cases h) (λ_=>rfl) κ (r0:=4) (r1:=5) τ (ofB:=λb=>(b.toNat:Int)) (λ_=>rfl) (λb w a0 v ha hb n xs ho hne s h=>Ayv b w a0 v ha hb n xs ho hne s h)
def Q53:=fkj func230 (O [B,N [cs,cs,A],B,B]) (Z [(8,B)]) IB [Q44]<|V [(3,jn [(3,B),(14,D)])]
def Q54:=fk0 func229 (z [(0,C 65536),(1,C 65537)] [(65536,[cs,cs,A]),(65537,[A])]) [(.normal,⟨[],[(65536,[cs,cs,A]),(65537,[A])],[65536,65537]⟩)] UX []
def Q55:=fk0 func228 (z [(0,B),(1,N [cs,cs,A]),(2,B),(3,B),(4,.one<|.clo 229 [] [(65536,0)])] [(65536,[A])]) (ru [(10,C 160),(11,B),(12,B)] [(160,[cs,cs,A]),(65536,[A])]) Hh [Q53,Q54]
def Q56:=fk0 func187 (O [B,N [cs,cs,A],B,B]) (rh [(8,C 128),(9,B),(10,B)] [(128,[cs,cs,A])]) Nz [Q55]
def Q57:=hq func51 (z [(0,C 65536)] [(65536,c'9)]) (ru [(2,os)] [(65536,[.np 65536 151,U 5])]) DR<|Bc4 aD (by intro h;cases h) (λ_=>rfl) κ (Bg6 (tb:=151) (te:=5) aD ⟨_,Tryz.func51,κ,κ⟩ (by intro h;cases h) κ (r0:=2) (λ_=>rfl) (λb w a0 g0 cap cur l h0 hb hg hn hc h63 hx=>Ayh b w a0 g0 cap cur l h0 hb hg hn hc h63 hx)) (λb w a0 v hb ho=>Bc3 (P:=Tryz.prog) (ρ:=Tryz.lays156_ren) { Tryz.lays156 with } Tryz.Builder_Extra_156 hb ho)
def Q58:=fk0 func188 (O [B,N [cs,cs,A],B,os,B]) (rh [(10,C 160),(11,B),(12,B)] [(160,[cs,cs,A])]) KZ [Q53]
def Q59:=fk0 func231 (z [(0,C 65536),(1,C 65537)] [(65536,[cs,cs,A]),(65537,[A])]) [(.normal,⟨[],[(65536,[cs,cs,A]),(65537,[A])],[65536,65537]⟩)] NN []
def Q60:=fk0 func228 (z [(0,B),(1,N [cs,cs,A]),(2,B),(3,B),(4,.one<|.clo 231 [] [(65536,0)])] [(65536,[A])]) (ru [(10,C 160),(11,B),(12,B)] [(160,[cs,cs,A]),(65536,[A])]) GL [Q53,Q59]
def Q61:=fk0 func189 (O [B,N [cs,cs,A],B,B]) (rh [(8,C 128),(9,B),(10,B)] [(128,[cs,cs,A])]) MD [Q60]
def Q62:=fkl func129 (O [N c'2,N [cs,cs,A],N c'5,B]) (rh [(8,C 128),(9,B),(10,B)] [(128,[cs,cs,A])]) KU [Q44,Q46,Q50,Q51,Q52,Q56,Q57,Q58,Q61] (jl [(15,jh [(3,B),(4,C 64),(5,C 80),(8,C 128),(16,B),(17,B)] [(64,c'2),(80,[cs,cs,A]),(128,[cs,cs,A])])]) (z [(3,B),(4,C 64),(5,C 80),(8,C 128),(11,C 176),(36,i 0 315),(37,B),(38,B)] [(64,c'2),(80,[cs,cs,A]),(128,[cs,cs,A]),(176,[.np 176 151,H 1 5])]) [xh 0 [(3,B),(4,C 64),(5,C 80),(8,C 128),(11,C 176)] [(64,c'2),(80,[cs,cs,A]),(128,[cs,cs,A]),(176,[.np 176 151,H 0 5])]] OO
def Q63:=fk0 func86 (O [N c'2,N [cs,cs,A],B]) (rh [(6,C 96),(7,C 112),(8,B),(9,B)] [(96,[cs,cs,A]),(112,c'4)]) Nt [Q43,Q62]
def Q64:=fkj func130 (O [N c'2,N c'5]) (Z [(4,D)]) JM [Q46]<|V [(1,jn [(4,D)])]
def Q65:=hq func159 (sp [(0,Y 3)]) (Z [(2,i 0 3)]) AW<|Ka (r:=2) (t:=3) aD ⟨_,Tryz.func159,κ,κ⟩ (tS:=32) (size:=1) (bytes:=Tryz.t3.bytes) κ κ (C_ κ) Apg As6
def Q66:=hq func160 (sp [(0,Y 4)]) (Z [(2,i 0 4)]) AC<|Ka (r:=2) (t:=4) aD ⟨_,Tryz.func160,κ,κ⟩ (tS:=33) (size:=1) (bytes:=Tryz.t4.bytes) κ κ (C_ κ) Aph As7
def Q67:=hq func161 (sp [(0,Y 68)]) (Z [(2,i 0 68)]) AG<|Ka (r:=2) (t:=68) aD ⟨_,Tryz.func161,κ,κ⟩ (tS:=34) (size:=5) (bytes:=Tryz.t68.bytes) κ κ (C_ κ) Api As8
def Q68:=fk0 func132 (O [N c'5]) (rh [(2,C 32)] [(32,c'4)]) Kw [Q65,Q66,Q67]
def Q69:=fk0 func133 (O []) (rh [(0,C 0)] [(0,Wa)]) Ov []
def Bho:Sp:=z [(3,C 48),(4,C 64),(6,C 96),(9,C 144),(42,B),(43,B)] [(48,c'2),(64,c'5),(96,RZ),(144,Ad0)]
def Bh2:SL:=[xh 0 [(3,C 48),(4,C 64),(6,C 96),(9,C 144)] [(48,c'2),(64,c'5),(96,RZ),(144,Ad0)]]
def Bhp:Sp:=z [(3,C 48),(6,C 96),(9,C 144),(53,Y 68),(54,B),(55,B)] [(48,c'2),(96,RZ),(144,Ad0)]
def Bh3:SL:=[xh 2 [(6,C 96),(9,C 144)] [(96,RZ),(144,Ad0)]]
def J70:=jl [(16,jh [(3,C 48),(6,C 96),(9,C 144),(12,B),(53,Y 68),(54,B),(55,B)] [(48,c'2),(96,RZ),(144,Ad0)])]
def t70:List KP:=[Q64,Q44,Q68,Q69]
def P70:LP:=pl [aC Bho Bh2 JA,aC Bhp Bh3 JB]
def Bsy:LK f87 P70 1:=lk0 t70 J70 2 Bhp Bh3 JB
def Bsx:LK f87 P70 0:=lk0 t70 J70 1 Bho Bh2 JA
def Q70:=fk1 func87 (O [N c'2,N c'5,N [cs,cs,A]]) (rh [(6,C 96),(7,B)] [(96,RZ)]) Ly t70 J70 P70<|aa<|AM Bsx<|AM Bsy CC
def Q71:=fk0 func61 (O [N c'2,N [cs,cs,A],B]) (rh [(6,C 96),(7,B),(8,B)] [(96,RZ)]) HE [Q63,Q70]
def Q72:=fk0 func30 (O [N c'2]) (rh [(2,C 32),(3,B)] [(32,RZ)]) Lz [Q17,Q71]
def Q73:=fkj func32 (z [(0,B),(1,C 65536)] [(65536,c'2)]) (ru [(3,D)] [(65536,c'2)]) Ge []<|V [(1,nu [(3,D)] [(65536,c'2)])]
def Q74:=fkl func62 (z [(0,Y 3),(1,.one<|.clo 32 [] [(65536,0)])] [(65536,c'2)]) (ru [(4,B)] [(65536,c'2)]) DW [Q73] (V []) (su [(0,Y 3),(1,.one<|.clo 32 [] [(65536,0)]),(7,B),(8,B)] [(65536,c'2)]) [xu 0 [] [(65536,c'2)],ry [(4,B)] [(65536,c'2)]] DK
def Q75:=fk0 func31 (z [(0,Y 3),(1,.one<|.clo 32 [] [(65536,0)])] [(65536,c'2)]) (ru [(4,D)] [(65536,c'2)]) BZ [Q74]
def Q76:=fk0 func33 (O [B]) (rh [(2,C 32)] [(32,Jo)]) Nd []
def Q77:=fk0 func34 (O [B]) (rh [(2,C 32)] [(32,JX)]) UU []
def Q78:=fkl func16 (O [N c'2,Y 3]) (rh [(4,C 64),(5,B)] [(64,NZ)]) Xq [Q72,Q75,Q76,Q77] (V []) (z [(4,C 64),(8,C 128),(34,Y 3),(35,B),(36,B)] [(64,NZ),(128,Bnk)]) [xh 0 [(4,C 64),(8,C 128)] [(64,NZ),(128,Bnk)]] TN
def Q79:=fkj func191 (O [B]) (Z [(2,D)]) IQ []<|V [(1,jn [(2,D)])]
def Q80:=fkl func62 (O [Y 3,.one<|.clo 191 [] []]) (Z [(4,B)]) Cz [Q79] (V []) (sp [(0,Y 3),(1,.one<|.clo 191 [] []),(7,B),(8,B)]) [xt 0 [],rx [(4,B)]] Cp
def Q81:=fk0 func31 (O [Y 3,.one<|.clo 191 [] []]) (Z [(4,D)]) Cd [Q80]
def Q82:=fk0 func141 (O [Y 3]) (Z [(2,D)]) HU [Q81]
def Q83:=fkl func144 (O [B,N Wb]) (Z [(4,D)]) Eg [] (V []) (sp [(0,B),(14,N By0),(15,B)]) [xt 0 [],rx [(4,D)]] Ik
def Q84:=fk0 func143 (z [(0,B),(1,N Wb),(2,C 65536)] [(65536,c'2)]) (ru [(5,D)] [(65536,c'2)]) Gm [Q83]
def Q85:=fkl func142 (z [(0,Y 130),(1,B),(2,.one<|.clo 143 [] [(65536,0)])] [(65536,c'2)]) (ru [(6,D)] [(65536,c'2)]) AV [Q84] (V []) (su [(2,.one<|.clo 143 [] [(65536,0)]),(13,Y 130),(14,B),(15,B)] [(65536,c'2)]) [xu 0 [] [(65536,c'2)],ry [(6,D)] [(65536,c'2)]] Bx
def Q86:=fkj func192 (O [B,B,B]) (Z [(6,D)]) DD []<|V [(1,jn [(6,D)])]
def Q87:=fk0 func193 (O [N [A,A,A],N [A,A,A]]) (Z [(4,B)]) CK [Q35,Q36]
def Q88:=fkl func147 (O [N c'2,B,N Oa]) (Z [(6,D)]) Co [Q17,Q86,Q20,Q87] (V [(1,jh [(1,B),(3,C 48),(5,C 80),(57,D)] [(48,c'2),(80,Oa)]),(6,jh [(1,B),(3,C 48),(5,C 80),(59,Y 191),(60,B),(61,B),(99,D)] [(48,c'2),(80,Oa)])]) (z [(1,B),(3,C 48),(5,C 80),(59,Y 191),(60,B),(61,B)] [(48,c'2),(80,Oa)]) [xt 0 [],rx [(6,D)]] LV
def Q89:=fk0 func146 (z [(0,B),(1,N Oa),(2,C 65536)] [(65536,c'2)]) (ru [(5,D)] [(65536,c'2)]) Gn [Q88]
def Q90:=fkl func145 (z [(0,Y 134),(1,B),(2,.one<|.clo 146 [] [(65536,0)])] [(65536,c'2)]) (ru [(6,D)] [(65536,c'2)]) AZ [Q89] (V []) (su [(2,.one<|.clo 146 [] [(65536,0)]),(13,Y 134),(14,B),(15,B)] [(65536,c'2)]) [xu 0 [] [(65536,c'2)],ry [(6,D)] [(65536,c'2)]] BH
def Q91:=fkj func164 (O [N [A,A]]) (Z [(2,D)]) BY []<|V [(1,jn [(2,D)])]
def Q92:=fkj func234 (O [B]) (Z [(2,D)]) Hy []<|V [(1,jn [(2,D)])]
def Q93:=fkj func194 (O [N [A,A,A,W,A]]) (Z [(2,D)]) Gh [Q92]<|V [(3,jn [(2,D)])]
def Q94:=fkj func235 (O [B,B,B]) (Z [(6,B),(7,D)]) Fs []<|V [(1,jn [(0,B),(1,B),(2,B),(14,D)]),(4,jn [(6,B),(7,D)])]
def Q95:=fk0 func195 (O [B,N [A,A,A]]) (Z [(4,D)]) Gk [Q94]
def Q96:=fkj func150 (O [N c'2,N Ma]) (Z [(4,D)]) EJ [Q17,Q91,Q93,Q95]<|V [(1,jh [(2,C 32),(3,C 48),(16,D)] [(32,c'2),(48,Ma)]),(3,jh [(2,C 32),(3,C 48),(46,D)] [(32,c'2),(48,Ma)]),(5,jn [(4,D)])]
def Q97:=fk0 func149 (z [(0,B),(1,N Ma),(2,C 65536)] [(65536,c'2)]) (ru [(5,D)] [(65536,c'2)]) Gp [Q96]
def Q98:=fkl func148 (z [(0,Y 142),(1,B),(2,.one<|.clo 149 [] [(65536,0)])] [(65536,c'2)]) (ru [(6,D)] [(65536,c'2)]) Ba [Q97] (V []) (su [(2,.one<|.clo 149 [] [(65536,0)]),(13,Y 142),(14,B),(15,B)] [(65536,c'2)]) [xu 0 [] [(65536,c'2)],ry [(6,D)] [(65536,c'2)]] BI
def Q99:=fkj func152 (O [B,N [A]]) (Z [(4,D)]) GW []<|V [(1,jn [(4,D)])]
def Btn:=fkl func151 (O [Y 144,B,.one<|.clo 152 [] []]) (Z [(6,D)]) BA [Q99] (V []) (sp [(2,.one<|.clo 152 [] []),(13,Y 144),(14,B),(15,B)]) [xt 0 [],rx [(6,D)]] Cw
def Blb:=fkj func98 (O [N c'2,N HX]) (Z [(4,D)]) Gd [Q64,Q44,Q82,Q85,Q90,Q98,Btn]<|V [(8,jn [(4,D)])]
def Blc:=fkj func136 (O [B,B,B]) (Z [(6,D)]) DY []<|V [(1,jn [(6,D)])]
def Bld:=fk0 func165 (O [N Jo]) (Z [(2,B)]) KW []
def Adm:=fk0 func103 (O [N c'2]) (rh [(2,C 32)] [(32,[J,J])]) CX [Q17]
def Aod:=fk0 func105 (O [N [J,J],N [J,J]]) (rh [(4,C 64)] [(64,[J,J])]) EA []
def Ble:=fk0 func166 (O [B]) (Z [(2,B)]) LS []
def Blf:=fkj func101 (O [N c'2,N Jo]) (Z [(4,D)]) IP [Q17,Blc,Q91,Bld,Adm,Aod,Ble]<|V [(3,jh [(2,C 32),(3,C 48),(49,D)] [(32,c'2),(48,Jo)]),(5,jh [(3,C 48),(5,D)] [(48,Jo)]),(6,jn [(4,D)])]
def Bto:=fk0 func115 (z [(0,N Jo),(1,C 65536)] [(65536,c'2)]) (ru [(3,D)] [(65536,c'2)]) Iv [Blf]
def Btp:=fkl func172 (z [(0,Y 88),(1,.one<|.clo 115 [] [(65536,0)])] [(65536,c'2)]) (ru [(4,B)] [(65536,c'2)]) Cu [Bto] (V []) (su [(0,Y 88),(1,.one<|.clo 115 [] [(65536,0)]),(7,B),(8,B)] [(65536,c'2)]) [xu 0 [] [(65536,c'2)],ry [(4,B)] [(65536,c'2)]] Cl
def Btq:=fk0 func114 (z [(0,Y 88),(1,.one<|.clo 115 [] [(65536,0)])] [(65536,c'2)]) (ru [(4,D)] [(65536,c'2)]) AY [Btp]
def Blg:=fkj func109 (O [B,B,B]) (Z [(6,D)]) Dl []<|V [(1,jn [(6,D)])]
def Blh:=fkj func106 (O [B,N JX]) (Z [(4,D)]) KX [Blg]<|V [(3,jh [(3,C 48),(60,D)] [(48,JX)]),(6,jn [(4,D)]),(7,jn [(4,D)])]
def Btr:=fk0 func117 (z [(0,N JX),(1,C 65536)] [(65536,c'2)]) (ru [(3,D)] [(65536,c'2)]) Iw [Blh]
def Bts:=fkl func173 (z [(0,Y 90),(1,.one<|.clo 117 [] [(65536,0)])] [(65536,c'2)]) (ru [(4,B)] [(65536,c'2)]) CJ [Btr] (V []) (su [(0,Y 90),(1,.one<|.clo 117 [] [(65536,0)]),(7,B),(8,B)] [(65536,c'2)]) [xu 0 [] [(65536,c'2)],ry [(4,B)] [(65536,c'2)]] CB
def Btt:=fk0 func116 (z [(0,Y 90),(1,.one<|.clo 117 [] [(65536,0)])] [(65536,c'2)]) (ru [(4,D)] [(65536,c'2)]) Bh [Bts]
def Bli:=fkj func73 (O [N c'2,N Lj]) (Z [(4,D)]) JO [Q17,Btq,Btt]<|V [(3,jn [(4,D)])]
def Btu:=fkj func88 (O [N c'2,N Lj]) (Z [(4,D)]) RS [Blb,Bli]<|V [(1,jn [(4,D)])]
def Btv:=fk0 func135 (z [(0,o4),(1,C 65536)] [(65536,c'2)]) (ru [(3,D)] [(65536,c'2)]) Fw []
def Btw:=fkl func190 (z [(0,Y 63),(1,.one<|.clo 135 [] [(65536,0)])] [(65536,c'2)]) (ru [(4,B)] [(65536,c'2)]) Dd [Btv] (V []) (su [(0,Y 63),(1,.one<|.clo 135 [] [(65536,0)]),(7,B),(8,B)] [(65536,c'2)]) [xu 0 [] [(65536,c'2)],ry [(4,B)] [(65536,c'2)]] CT
def Btx:=fk0 func134 (z [(0,Y 63),(1,.one<|.clo 135 [] [(65536,0)])] [(65536,c'2)]) (ru [(4,D)] [(65536,c'2)]) Bw [Btw]
def Bty:=fkj func89 (O [N c'2,N ZK]) (Z [(4,D)]) VX [Adm,Aod,Btx]<|V [(4,jh [(2,C 32),(3,C 48),(75,D)] [(32,c'2),(48,ZK)])]
def Btz:=fkj func90 (O [N Jo]) (rh [(2,C 32)] [(32,[J,W,W,W,W])]) NM [Blc]<|V [(2,jh [(1,C 16),(2,C 32),(3,C 48),(24,D)] [(16,Jo),(32,[J,W,W,W,W]),(48,[J,W,W,W,W])])]
def Bt0:=fk0 func91 (O [N JX,D]) (rh [(4,C 64)] [(64,[A,W,A,W])]) Zq []
def Bt1:=fkl func63 (O [N c'2,N Lj,N ZK]) (rh [(6,C 96),(7,B)] [(96,ZL)]) RR [Btu,Bty,Btz,Bt0] (V []) (z [(4,C 64),(5,C 80),(6,C 96),(8,C 128),(28,B),(29,B)] [(64,Lj),(80,ZK),(96,ZL),(128,Bnl)]) [xh 0 [(6,C 96),(8,C 128)] [(96,ZL),(128,Bnl)]] Pc
def Blj:=fkj func137 (O [N c'2,N [J,J]]) (Z [(4,D)]) Ls [Adm]<|V [(2,jn [(4,D)])]
def Bll:=fkj func138 (O [B,B]) (Z [(4,D)]) HA []<|V [(1,jn [(4,D)])]
def Bt2:=fkj func139 (O [N c'2,N By1]) (Z [(4,D)]) Oy [Bll]<|V [(2,jn [(4,D)])]
def Bt3:=fkl func92 (O [N c'2,N Bes]) (Z [(4,D)]) Oz [Blj,Bll,Bt2] (V [(2,jh [(2,C 32),(3,C 48),(49,D)] [(32,c'2),(48,Bes)])]) (z [(2,C 32),(51,Y 217),(52,B),(53,B)] [(32,c'2)]) [xt 0 [],rx [(4,D)]] Wz
def Bdx:=fkl func94 (z [(0,C 65536),(1,Ae1),(2,B)] [(65536,[H 0 5])]) (nu [] [(65536,[H 0 5])]) Bp [] (V []) (su [(0,C 65536),(1,Ae1),(6,B),(7,B)] [(65536,[H 0 5])]) [xu 0 [] [(65536,[H 0 5])]] ON
def Bt4:=fkl func93 (z [(0,C 65536),(1,Y 66)] [(65536,[H 0 5])]) (nu [] [(65536,[H 0 5])]) Kr [Bdx] (V []) (su [(0,C 65536),(6,Y 66),(7,B),(8,B)] [(65536,[H 0 5])]) [xu 0 [] [(65536,[H 0 5])]] Ng
def Bt5:=fkl func95 (z [(0,C 65536),(1,Y 4)] [(65536,[H 0 5])]) (nu [] [(65536,[H 0 5])]) Ks [Bdx] (V []) (su [(0,C 65536),(4,Ae1),(7,Y 4),(8,B),(9,B)] [(65536,[H 0 5])]) [xu 0 [(0,C 65536),(4,Ae1)] [(65536,[H 0 5])]] Nh
def Ayz:Sp:=sp [(0,os),(3,.one<|.int .u16),(7,B),(8,B)]
def Azn:SL:=[xt 0 [(3,.one<|.int .u16)]]
def Ay0:Sp:=sp [(0,os),(3,.one<|.int .u16),(7,B),(8,B),(18,B)]
def Azo:SL:=[xt 2 [(0,os),(3,.one<|.int .u16),(7,B),(8,B)]]
def Bds:LP:=pl [aC Ayz Azn RT,aC Ay0 Azo NA]
def Bbp:LK f140 Bds 1:=lk0 [] (V []) 2 Ay0 Azo NA
def Boq:LK f140 Bds 0:=lk0 [] (V []) 1 Ayz Azn RT (hin:=(aa<|AM Bbp CC))
def Bt6:=fk1 func140 (O [os]) (Z [(2,.one<|.int .u16)]) VT [] (V []) Bds<|aa<|AM Boq<|AM Bbp CC
def Blm:=fk0 func97 (O [os]) (Z [(2,os)]) Sw [Bt6]
def Bt7:=fkl func64 (O [N c'2,N Bes]) (Z [(4,os),(5,B)]) Xo [Q17,Bt3,Bt4,Bdx,Bt5,Blm] (V []) (z [(6,C 416),(45,Y 217),(46,B),(47,B)] [(416,[H 0 5])]) [xh 0 [(6,C 416)] [(416,[H 0 5])]] TE
def Bln:=hq func65 (sp [(0,Y 88)]) (Z [(2,i 0 88)]) DJ<|Ka (r:=2) (t:=88) aD ⟨_,Tryz.func65,κ,κ⟩ (tS:=47) (size:=9) (bytes:=Tryz.t88.bytes) κ κ (C_ κ) Atb Awt
def Blo:=hq func66 (sp [(0,Y 90)]) (Z [(2,i 0 90)]) Es<|Ka (r:=2) (t:=90) aD ⟨_,Tryz.func66,κ,κ⟩ (tS:=48) (size:=6) (bytes:=Tryz.t90.bytes) κ κ (C_ κ) Atc Awu
def Blp:=hq func154 (sp [(0,Y 130)]) (Z [(2,i 0 130)]) CF<|Ka (r:=2) (t:=130) aD ⟨_,Tryz.func154,κ,κ⟩ (tS:=40) (size:=41) (bytes:=Tryz.t130.bytes) κ κ (C_ κ) Apc As2
def Blq:=hq func156 (sp [(0,Y 142)]) (Z [(2,i 0 142)]) Dp<|Ka (r:=2) (t:=142) aD ⟨_,Tryz.func156,κ,κ⟩ (tS:=42) (size:=14) (bytes:=Tryz.t142.bytes) κ κ (C_ κ) Ape As4
def Blr:=hq func157 (sp [(0,Y 144)]) (Z [(2,i 0 144)]) Do<|Ka (r:=2) (t:=144) aD ⟨_,Tryz.func157,κ,κ⟩ (tS:=43) (size:=1) (bytes:=Tryz.t144.bytes) κ κ (C_ κ) Apf As5
def Bt8:=hq func162 (sp [(0,Y 66)]) (Z [(2,i 0 66)]) GA<|Ka (r:=2) (t:=66) aD ⟨_,Tryz.func162,κ,κ⟩ (tS:=44) (size:=2) (bytes:=Tryz.t66.bytes) κ κ (C_ κ) Apj As9
def Bls:=hq func155 (sp [(0,Y 134)]) (Z [(2,i 0 134)]) Dn<|Ka (r:=2) (t:=134) aD ⟨_,Tryz.func155,κ,κ⟩ (tS:=41) (size:=6) (bytes:=Tryz.t134.bytes) κ κ (C_ κ) Apd As3
def Bt9:=hq func163 (sp [(0,Y 191)]) (Z [(2,i 0 191)]) GY<|Ka (r:=2) (t:=191) aD ⟨_,Tryz.func163,κ,κ⟩ (tS:=132) (size:=3) (bytes:=Tryz.t191.bytes) κ κ (C_ κ) Apk Ata
def Bua:=fkl func100 (O [N HX]) (rh [(2,C 32)] [(32,RZ)]) RL [Q65,Q66,Q67,Blp,Blq,Blr,Bt8,Bls,Bt9] (V []) (z [(1,C 16),(2,C 32),(54,B),(55,B)] [(16,RZ),(32,Ad0)]) [xh 0 [(1,C 16),(2,C 32)] [(16,RZ),(32,Ad0)]] OP
def Bub:=fk0 func196 (O [N c'2]) (Z [(2,B),(3,B)]) Tw [Q17]
def Buc:=fk0 func236 (O [os]) (Z [(2,os),(3,B)]) Su [Blm]
def Bue:=fk0 func197 (O [N c'2,os,B,o1]) [rx [(8,.one .nilp),(9,B)],yh [(8,C 752),(9,B)] [(752,JY)]] OA [Q17,Buc]
def Q147:=fkl func244 (z [(0,C 65536),(1,B)] [(65536,JY)]) (ru [(4,Ae1)] [(65536,JY)]) Bz [] (V []) (su [(0,C 65536),(1,B),(5,Ae1),(7,B),(8,B)] [(65536,JY)]) [xu 0 [(0,C 65536),(1,B),(5,Ae1)] [(65536,JY)]] GM
def Q148:=fk0 func240 (O [D]) (jn []) JI []
def Q149:=fk0 func238 (z [(0,C 65536)] [(65536,JY)]) (ru [(2,C 32)] [(32,[J,J]),(65536,JY)]) GE [Q147,Blj,Q148]
def Q150:=fk0 func239 (z [(0,C 65536),(1,B)] [(65536,JY)]) (ru [(4,B)] [(65536,JY)]) BC [Q147,Q148]
def Q151:=fk0 func241 (z [(0,C 65536)] [(65536,JY)]) (ru [(2,o4)] [(65536,JY)]) EB [Q147,Q148]
def Q152:=fkl func242 (z [(0,C 65536),(1,B)] [(65536,JY)]) (ru [(4,i 0 4)] [(65536,JY)]) GF [Q150] (V []) (su [(5,B),(6,i 0 4),(16,B),(17,B)] [(65536,JY)]) [xu 0 [(6,i 0 4)] [(65536,JY)]] Ju
def Ay1:Sp:=su [(0,C 65536),(2,C 32),(3,C 48),(40,B),(41,B)] [(32,ZL),(48,[A]),(65536,JY)]
def Azp:SL:=[xu 0 [(2,C 32),(3,C 48)] [(32,ZL),(48,[A]),(65536,JY)]]
def Bk8:=V [(5,nu [(0,C 65536),(2,C 32),(3,C 48)] [(32,ZL),(48,[A]),(65536,JY)])]
def Bk9:LP:=pl [aC Ay1 Azp DG]
def t153:KS [(238,Q149.e),(239,Q150.e),(240,Q148.e),(241,Q151.e),(242,Q152.e),(244,Q147.e)]:=(tc Q149.k<|tc Q150.k<|tc Q148.k<|tc Q151.k<|tc Q152.k<|tc Q147.k tn)
def Bor:LoopOK prog G f198.ntmps (Bk9 0)<|Px (noD 1<|Bf f198) 0:=lk cx t153 Bk8 1 Ay1 Azp (rfl:DG=_) κ (an0 κ) λx=>by kernel_rfl
def Bn2:Fe G:=fe f198 (z [(0,C 65536)] [(65536,JY)]) (ru [(2,C 32),(3,C 48)] [(32,ZL),(48,[A]),(65536,JY)]) Gi
def Bzr:K 198 Bn2:=fkd cx t153 Bk8 Bk9 1 func198 Bsh (λ_ _=>by kernel_rfl) Bsc<|aa<|AM Bor CC
def Buf:KP:=⟨198,Bn2,Bzr⟩
def Bug:=fk0 func153 (O [N c'2,os]) (rh [(4,C 64),(5,B)] [(64,ZL)]) Hz [Bub,Bue,Buf]
def Blt:=fk0 func245 (O [B]) (Z [(2,B)]) HC []
def Buh:=fkj func313 (O [N [J,W,W,W,W],B]) (Z [(4,D)]) KT []<|V [(10,jn [(4,D)])]
def Bui:=fkj func314 (O [N [J,W,W,W,W],B,D]) (rh [(6,C 96)] [(96,[J,W,W,W,W])]) Nr []<|V [(2,jh [(1,B),(2,D),(3,C 48),(6,C 96),(13,D)] [(48,[J,W,W,W,W]),(96,[J,W,W,W,W])])]
def Buj:=fkl func275 (O [B,N Wb,N [J,W,W,W,W]]) (rh [(6,C 96)] [(96,Wb)]) PS [Buh,Bui] (V []) (z [(0,B),(4,C 64),(5,C 80),(6,C 96),(9,B)] [(64,Wb),(80,[J,W,W,W,W]),(96,Wb)]) [xh 0 [(4,C 64),(6,C 96)] [(64,Wb),(96,Wb)]] Kz
def Buk:=fk0 func246 (O [B,N Wb,N [J,W,W,W,W]]) (rh [(6,C 96),(7,B)] [(96,Wb)]) JG [Q83,Buj]
def Bul:=fk0 func276 (O [N c'2,.one cf]) (Z [(4,B)]) Tx []
def Bum:=fkj func247 (O [N c'2,N [A],.one cf]) (rh [(6,C 96)] [(96,[A])]) VU [Q17,Bul]<|V [(4,jh [(2,.one cf),(3,C 48),(4,C 64),(6,C 96),(7,B),(22,D)] [(48,c'2),(64,[A]),(96,[A])])]
def Bun:=fkl func199 (z [(0,C 65536)] [(65536,Awh)]) [ry [] [(65536,Awh)],(.normal,su [] [(65536,Cs)])] DX [Blt,Buk,Bum] (V []) (su [(0,C 65536),(33,Y 217),(34,B),(35,B)] [(65536,Cs)]) [xu 0 [] [(65536,Cs)]] IT
def Avr:=fkj func248 (O [B]) (Z [(2,D)]) Fq []<|V [(1,jn [(2,D)])]
def Xr:=fkj func41 (O [B,B]) (rh [(4,C 64)] [(64,[J,J])]) CY []<|V [(1,jh [(0,B),(1,B),(4,C 64),(10,D)] [(64,[J,J])])]
def Adn:=fk0 func102 (O [N [J,J],N [J,J]]) (rh [(4,C 64)] [(64,[J,J])]) Dk []
def Q166:=fk0 func171 (O [N [J,J],B,B]) (Z [(6,D)]) DV [Xr,Adn]
def Blu:=fkl func315 (O [Y 191,B,N [J,J]]) (Z [(6,i 0 191),(7,D)]) Nq [Q166] (V []) (z [(1,B),(5,C 80),(8,i 0 191),(11,Y 191),(12,B),(13,B)] [(80,[J,J])]) [xt 0 [(8,i 0 191)],rx [(6,i 0 191),(7,D)]] UY
def Buo:=fk0 func277 (O [N c'2,B,N Oa]) (rh [(6,C 96),(7,B)] [(96,Wa)]) PP [Q88,Blu]
def Bdy:=fk0 func310 (O [o4]) (Z [(2,B)]) Dw []
def Blv:=fkj func353 (O [B]) (Z [(2,D)]) Fp []<|V [(1,jn [(2,D)])]
def Bdz:=fk0 func354 (O [o4]) (Z [(2,B)]) EO []
def Bup:=fkj func316 (O [B,o4]) (Z [(4,B)]) Si [Bdy,Blv,Bdz]<|V [(2,jn [(5,B),(19,D)])]
def Buq:=fkj func317 (O [D,D,N [A,A,A,A]]) (Z [(6,B)]) HQ []<|jl [(5,jh [(1,D),(5,C 80),(7,B)] [(80,[A,A,A,A])])]
def Bur:=fk0 func278 (O [B,N [J,W,W,W,W]]) (rh [(4,C 64)] [(64,[A,A,A])]) LQ [Bup,Buq]
def Blw:=fkj func318 (O [B,N [A,A,A]]) (Z [(4,D)]) FL [Blv]<|V [(1,jn [(4,D)])]
def Bd0:=fkj func279 (O [B,N [A,A,A]]) (rh [(4,C 64)] [(64,[J,J])]) Hl [Blw]<|V [(3,jh [(3,C 48),(4,C 64),(20,D)] [(48,[A,A,A]),(64,[J,J])]),(5,jh [(3,C 48),(4,C 64),(35,D)] [(48,[A,A,A]),(64,[J,J])])]
def Bus:=fkj func280 (O [N c'2,B,N Oa,N [A,A,A]]) (rh [(8,C 128),(9,B)] [(128,Wa)]) NK [Q88,Blw,Bd0,Blu]<|jl [(8,jh [(6,C 96),(7,C 112),(8,C 128),(10,B)] [(96,Wa),(112,[A,A,A]),(128,Ai0)]),(10,jh [(6,C 96),(7,C 112),(8,C 128),(10,B)] [(96,Wa),(112,[A,A,A]),(128,Ai0)]),(1048581,jh [(6,C 96),(7,C 112),(8,C 128),(10,B),(54,D)] [(96,Wa),(112,[A,A,A]),(128,Ai0)])]
def But:=fk0 func249 (z [(0,C 65536),(1,B)] [(65536,Cs)]) [ry [] [(65536,Cs)],(.normal,su [] [(65536,Cs)])] EX [Buo,Bur,Bd0,Bus]
def Blx:=fkj func250 (O [B]) (Z [(2,D)]) EH []<|V [(1,jn [(2,D)])]
def Bly:=fkj func319 (O [N c'2,B,N Ma]) (Z [(6,D)]) JL [Q96]<|V [(1,jn [(6,D)])]
def Avs:=fk0 func356 (O [B]) (Z [(2,B)]) Ld []
def Blz:=fk0 func355 (O [N [A,A,A,W,A]]) (rh [(2,C 32)] [(32,[A,A,A,W,A])]) JH [Avs]
def Buu:=fk0 func320 (O [N [A,A,A,W,A]]) (rh [(2,C 32)] [(32,[A,A,A,W,A])]) Qz [Q93,Blz,Avs]
def Buv:=fkj func321 (O [N [A,A,A]]) (rh [(2,C 32)] [(32,[A,A,A])]) Nv []<|V [(1,jh [(1,C 16),(2,C 32),(20,D)] [(16,[A,A,A]),(32,[A,A,A])])]
def Buw:=fkj func357 (O [N c'3,N [A,A,A,W,A]]) (Z [(4,D)]) Qy []<|V [(1,jn [(4,D)])]
def Bux:=fk0 func358 (O [N c'3,N [A,A,A]]) (Z [(4,D)]) RM []
def Bl0:=fk0 func322 (O [N c'3,N Ma,B]) (rh [(6,C 96),(7,B)] [(96,Ma)]) Ku [Buw,Bux]
def Buy:=fk0 func281 (O [N c'2,B,N Ma]) (rh [(6,C 96),(7,B),(8,B)] [(96,Ma)]) PW [Bly,Buu,Buv,Bl0]
def Bl1:=fkj func342 (O [N c'5,B]) (Z [(4,D)]) KV []<|V [(1,jn [(4,D)])]
def Bl2:=fkj func343 (O [N c'5,B]) (Z [(4,D)]) Nw [Bl1]<|V [(1,jn [(4,D)])]
def Buz:=fkl func303 (O [N c'5]) (Z [(2,i 0 451)]) MO [Bl2] (V []) (z [(1,C 16),(3,i 0 451),(10,B),(11,B)] [(16,c'5)]) [xt 0 [(3,i 0 451)]] PK
def VY:=fk0 func40 (O [N [J,J],N [J,J]]) (rh [(4,C 64)] [(64,[J,J])]) Ci []
def Bu0:=fkl func302 (O [N c'2,N c'5,Y 451,B]) (rh [(8,C 128)] [(128,[J,J])]) Mn [Q46,Xr,VY] (V [(7,jh [(2,Y 451),(3,B),(8,C 128),(9,C 144),(11,C 176),(37,Y 68),(38,B),(39,B),(58,D)] [(128,[J,J]),(144,[J,J]),(176,[A,A,A,A,W])])]) (z [(2,Y 451),(3,B),(8,C 128),(9,C 144),(37,Y 68),(38,B),(39,B)] [(128,[J,J]),(144,[J,J])]) [xh 0 [(8,C 128),(9,C 144)] [(128,[J,J]),(144,[J,J])]] NP
def Bd1:=fk0 func258 (O [N c'2,N c'5,B]) (rh [(6,C 96)] [(96,[J,J])]) JK [Buz,Bu0]
def Bu1:=fkj func323 (O [N c'2,N [A,W,A,W]]) (Z [(4,D)]) Lh []<|V [(1,jn [(4,D)])]
def Bu2:=fkj func359 (z [(0,C 65536),(1,o4)] [(65536,Hp)]) (nu [] [(65536,Hp)]) FW []<|jl [(4,nu [(0,C 65536),(1,o4)] [(65536,Hp)])]
def Bu3:=fkj func389 (O [B,N [A,A,A],N [A,W,A,W],B]) (rh [(8,C 128),(9,B),(10,D)] [(128,[A,A,A])]) RN [Q95,Q94]<|V [(4,jh [(0,B),(3,B),(5,C 80),(6,C 96),(8,C 128),(12,D),(40,D)] [(80,[A,A,A]),(96,[A,W,A,W]),(128,[A,A,A])]),(6,jh [(0,B),(3,B),(5,C 80),(6,C 96),(8,C 128),(53,D)] [(80,[A,A,A]),(96,[A,W,A,W]),(128,[A,A,A])])]
def Bl3:=fk0 func376 (z [(0,C 65536),(1,B)] [(65536,Hp)]) (ru [(4,D)] [(65536,Hp)]) Cc [Bu3]
def Bu4:=fkj func360 (z [(0,C 65536)] [(65536,Hp)]) (ru [(2,D)] [(65536,Hp)]) Fu [Bl3]<|V [(1,nu [(0,C 65536),(17,D)] [(65536,Hp)]),(4,nu [(0,C 65536),(3,D),(37,D)] [(65536,Hp)]),(6,nu [(0,C 65536),(48,D)] [(65536,Hp)])]
def Bd2:=fk0 func325 (O [.one<|.rp 483 0]) (rh [(2,C 32)] [(32,c'3)]) CE []
def Bl4:=fk0 func390 (O [N [A,A,A,W,A],B]) (rh [(4,C 64)] [(64,[A,A,A,W,A])]) LO []
def Bu5:=fk0 func391 (O [N [A,A,A,W,A],B]) (rh [(4,C 64),(5,B)] [(64,[A,A,A,W,A])]) QB [Avs]
def Bu6:=fk0 func392 (O [N [A,A,A,W,A]]) (rh [(2,C 32),(3,B)] [(32,[A,A,A,W,A])]) Zo [Bl4]
def Bl5:=fkj func377 (O [N c'3,N [A,A,A,W,A],B,D,D]) (rh [(10,C 160),(11,B)] [(160,[A,A,A,W,A])]) QA [Q93,Blz,Bl4,Bu5,Bu6,Avs]<|jl [(4,jh [(2,B),(3,D),(4,D),(5,C 80),(6,C 96),(10,C 160)] [(80,c'3),(96,[A,A,A,W,A]),(160,[A,A,A,W,A])]),(1048585,jh [(2,B),(3,D),(5,C 80),(6,C 96),(10,C 160),(12,D),(30,D)] [(80,c'3),(96,[A,A,A,W,A]),(160,[A,A,A,W,A])]),(1048588,jh [(3,D),(5,C 80),(6,C 96),(10,C 160),(12,D),(44,D)] [(80,c'3),(96,[A,A,A,W,A]),(160,[A,A,A,W,A])]),(1048590,jh [(3,D),(5,C 80),(6,C 96),(10,C 160),(12,D),(53,D)] [(80,c'3),(96,[A,A,A,W,A]),(160,[A,A,A,W,A])]),(1048597,jh [(6,C 96),(10,C 160),(95,D)] [(96,[A,A,A,W,A]),(160,[A,A,A,W,A])])]
def Bu7:=fkj func361 (z [(0,C 65536)] [(65536,Hp)]) (nu [] [(65536,Hp)]) FV [Bd2,Bl5]<|jl [(7,nu [(0,C 65536)] [(65536,Hp)])]
def Bl6:=fkj func261 (O [B,N [A,A],B]) (Z [(6,D)]) En [Q91]<|V [(1,jn [(6,D)])]
def Bl7:=fkj func348 (O [o4]) (Z [(2,B)]) LM []<|jl [(5,jn [(0,o4),(2,B)]),(8,jn [(0,o4),(2,B)])]
def Bu8:=fkj func305 (O [B,N [A,A],B,N [J,J,J]]) (rh [(8,C 128)] [(128,KH)]) Jw [Adn,Q166,Bdy,Bl7]<|jl [(9,jh [(2,B),(8,C 128),(11,o4),(12,C 192)] [(128,KH),(192,KH)])]
def Bu9:=fkj func306 (O [N KH]) (rh [(2,C 32),(3,C 48)] [(32,KH),(48,KH)]) EV []<|V [(1,jh [(1,C 16),(2,C 32),(3,C 48)] [(16,KH),(32,KH),(48,KH)]),(3,jh [(1,C 16),(2,C 32),(3,C 48)] [(16,KH),(32,KH),(48,KH)])]
def Bva:=fkj func349 (O [N KH]) (Z [(2,B)]) Fk []<|V [(1,jh [(1,C 16),(3,D)] [(16,KH)])]
def Bd3:=fk0 func350 (O [B]) (rh [(2,C 32)] [(32,[A,A,A])]) CP []
def Bvb:=fk0 func307 (O [N KH]) (rh [(2,C 32)] [(32,[A,A,A])]) EU [Bva,Bd3]
def Bl8:=fk0 func351 (O [B,D,B,B,D,B]) (Z [(12,B)]) IK []
def Bl9:=fkj func309 (O [N KH]) (rh [(2,C 32)] [(32,[A,A,A])]) DE [Bl8,Bd3]<|V [(1,jh [(1,C 16),(2,C 32),(3,D)] [(16,KH),(32,[A,A,A])])]
def Bvc:=fkj func308 (O [N KH]) (rh [(2,C 32)] [(32,[A,A,A])]) Fl [Bl8,Bd3,Bl9]<|V [(1,jh [(1,C 16),(2,C 32),(3,D)] [(16,KH),(32,[A,A,A])])]
def Bma:=fkj func262 (O [B,N [A,A],B,N [J,J,J]]) (rh [(8,C 128),(9,B)] [(128,[A,A,A])]) Em [Bu8,Bu9,Bvb,Bvc,Bl9]<|V [(3,jh [(8,C 128),(9,B)] [(128,[A,A,A])])]
def Bmb:=fk0 func204 (O [B,N [A,A],B,N [J,J,J]]) (rh [(8,C 128)] [(128,[A,A,A])]) El [Bl6,Bma]
def Bmc:=fk0 func205 (O [B,N [A,A],B,N [J,J,J]]) (rh [(8,C 128)] [(128,[A,A])]) FK [Bl6,Bma]
def Bvd:=fk0 func378 (O [N c'2,B,B,B]) (Z [(8,B)]) VV [Q17]
def Bve:=fk0 func362 (z [(0,C 65536),(1,N [J,J])] [(65536,Hp)]) [ry [] [(65536,Hp)],(.normal,su [] [(65536,Hp)])] Ft [Bmb,Bmc,Bd2,Bl5,Bl3,Bvd]
def Bvf:=fkj func324 (z [(0,C 65536),(1,o4),(2,N [J,J])] [(65536,Hp)]) [ry [] [(65536,Hp)],(.normal,su [] [(65536,Hp)])] GH [Bu2,Bu4,Bu7,Bve]<|jl [(7,nu [(0,C 65536),(5,C 80)] [(80,[J,J]),(65536,Hp)]),(1048578,nu [(0,C 65536),(5,C 80),(20,D)] [(80,[J,J]),(65536,Hp)]),(1048579,nu [(0,C 65536),(5,C 80),(35,D)] [(80,[J,J]),(65536,Hp)]),(1048584,nu [] [(65536,Hp)])]
def Bvg:=fkj func282 (O [N c'2,B,N Ma,N [A,W,A,W],o4,N [J,J]]) (rh [(12,C 192),(13,B),(14,B)] [(192,Ma)]) RO [Bly,Bu1,Bvf,Bd2,Bl0]<|V [(6,jh [(8,C 128),(12,C 192),(15,C 592)] [(128,Ma),(192,Ma),(592,Hp)])]
def Bvh:=fkj func251 (z [(0,C 65536),(1,B),(2,B)] [(65536,Cs)]) [ry [] [(65536,Cs)],(.normal,su [] [(65536,Cs)])] FU [Buy,Bd1,Bvg]<|jl [(6,nu [(0,C 65536),(1,B),(6,C 96)] [(96,[J,J]),(65536,Cs)])]
def Bmd:=fk0 func328 (O [N c'5]) (rh [(2,C 32)] [(32,c'4)]) Nb [Q65,Q66,Q67]
def Bme:=fk0 func326 (O [N c'2,N c'5,N [A,A,A,A,A]]) (rh [(6,C 96),(7,B)] [(96,c'4)]) Na [Q46,Q31,Bmd,Q42]
def Bmf:=fkj func327 (O [N c'2,N c'5]) (Z [(4,D)]) Mt [Q46]<|V [(1,jn [(4,D)])]
def Bvi:=fkj func283 (O [N c'2,N [cs,cs,A],N c'5,N [A,A,A,A,A],B]) (rh [(10,C 160),(11,C 176),(12,B),(13,B)] [(160,[cs,cs,A]),(176,c'4)]) OE [Bme,Q44,Q39,Bmf,Q51,Q28,Q58,Q62,Bmd]<|jl [(12,jh [(4,B),(6,C 96),(7,C 112),(10,C 160),(11,C 176),(14,C 224),(15,B)] [(96,[cs,cs,A]),(112,c'5),(160,[cs,cs,A]),(176,c'4),(224,c'8)]),(1048581,jh [(4,B),(5,C 80),(6,C 96),(7,C 112),(8,C 128),(10,C 160),(11,C 176),(14,C 224),(63,D)] [(80,c'2),(96,[cs,cs,A]),(112,c'5),(128,[A,A,A,A,A]),(160,[cs,cs,A]),(176,c'4),(224,c'8)])]
def Bd4:=fkl func252 (z [(0,C 65536),(1,Y 315)] [(65536,Cs)]) [ry [] [(65536,Cs)],(.normal,su [] [(65536,Cs)])] BU [Bvi] (V []) (su [(0,C 65536),(10,Y 315),(11,B),(12,B)] [(65536,Cs)]) [xu 0 [] [(65536,Cs)],ry [] [(65536,Cs)]] Fa
def Bvj:=fkl func200 (z [(0,C 65536)] [(65536,Cs)]) (nu [] [(65536,Cs)]) Gj [Avr,But,Blx,Bvh,Bd4] (jl [(12,nu [(0,C 65536),(2,i 0 315),(3,B),(5,D),(11,Y 3),(12,B),(13,B)] [(65536,ZM)]),(1048582,nu [(0,C 65536),(2,i 0 315),(3,B),(11,Y 3),(12,B),(13,B)] [(65536,ZM)]),(1048585,nu [(0,C 65536),(2,i 0 315),(3,B),(11,Y 3),(12,B),(13,B)] [(65536,ZM)]),(1048587,nu [(0,C 65536),(2,i 0 315),(3,B),(11,Y 3),(12,B),(13,B),(61,D)] [(65536,ZM)]),(1048590,nu [] [(65536,Cs)])]) (su [(0,C 65536),(2,i 0 315),(11,Y 3),(12,B),(13,B)] [(65536,ZM)]) [xu 0 [(0,C 65536),(2,i 0 315)] [(65536,ZM)]] Fx
def Bvk:=fkj func329 (O [N c'2,B,N Oa]) (Z [(6,D)]) PQ [Q88]<|V [(1,jn [(6,D)])]
def Bvl:=fkj func330 (O [N c'2,N Ma,N [A,W,A,W]]) (Z [(6,D)]) Mw [Q96]<|V [(1,jn [(6,D)])]
def Bvm:=fkl func284 (O [.one<|.rp 282 0]) (Z [(2,i 0 4)]) CS [Avr,Bvk,Blx,Bvl] (V [(5,jn [(0,.one<|.rp 282 0),(3,i 0 4),(18,Y 3),(19,B),(20,B)])]) (sp [(0,.one<|.rp 282 0),(3,i 0 4),(18,Y 3),(19,B),(20,B)]) [xt 0 [(3,i 0 4)]] IS
def Bvn:=fk0 func363 (O [N Sa,B]) (Z [(4,D)]) BO []
def Bvo:=fkl func365 (O [N c'5]) (Z [(2,D)]) Er [] (V []) (z [(1,C 16),(6,Y 3),(7,B),(8,B)] [(16,c'5)]) [xt 0 [],rx [(2,D)]] WB
def Bvp:=fk0 func366 (O [N Sa,B]) (Z [(4,i 0 315)]) DP []
def Bvq:=fk0 func364 (O [D,B,i 0 315]) (Z [(6,i 0 315),(7,B)]) Eo []
def Bvr:=fkj func331 (O [N Sa,B]) (Z [(4,i 0 315),(5,B)]) Ij [Bvn,Bvo,Bvp,Bvq]<|V [(2,jh [(1,B),(2,C 32),(6,C 96),(7,D),(17,D)] [(32,Sa),(96,c'5)]),(4,jh [(1,B),(2,C 32),(6,C 96),(7,D),(31,D)] [(32,Sa),(96,c'5)]),(5,jh [(1,B),(2,C 32),(6,C 96),(7,D),(31,D)] [(32,Sa),(96,c'5)]),(7,jh [(1,B),(2,C 32),(6,C 96),(7,D),(46,D)] [(32,Sa),(96,c'5)]),(9,jh [(1,B),(2,C 32),(6,C 96),(7,D),(60,D)] [(32,Sa),(96,c'5)]),(11,jh [(1,B),(2,C 32),(6,C 96),(7,D),(69,D)] [(32,Sa),(96,c'5)]),(13,jh [(1,B),(2,C 32),(6,C 96),(7,D),(83,D)] [(32,Sa),(96,c'5)]),(15,jh [(1,B),(2,C 32),(6,C 96),(102,D)] [(32,Sa),(96,c'5)]),(17,jh [(2,C 32),(122,D)] [(32,Sa)])]
def Bvs:=fk0 func285 (O [N c'2,N c'5,N [A,A],Y 4]) (Z [(8,i 0 315),(9,B)]) RP [Q46,Bvr]
def Bvt:=fkl func332 (O [N c'5,B]) (Z [(4,D)]) Gl [] (V []) (sp [(1,B),(8,Y 68),(9,B),(10,B)]) [xt 0 [],rx [(4,D)]] Rf
def Bvu:=fkl func286 (O [N c'2,N c'5,Y 4]) (Z [(6,i 0 315)]) Tz [Q46,Bvt] (jl [(13,jh [(2,Y 4),(4,C 64),(7,i 0 315),(8,B),(24,Y 3),(25,B),(26,B)] [(64,c'5)]),(1048583,jh [(2,Y 4),(4,C 64),(7,i 0 315),(8,B),(9,B),(10,D),(24,Y 3),(25,B),(26,B)] [(64,c'5)]),(1048584,jh [(2,Y 4),(4,C 64),(7,i 0 315),(8,B),(10,D),(24,Y 3),(25,B),(26,B),(57,D)] [(64,c'5)])]) (z [(2,Y 4),(4,C 64),(7,i 0 315),(24,Y 3),(25,B),(26,B)] [(64,c'5)]) [xt 0 [(7,i 0 315)]] Qc
def Bvv:=fkj func287 (O [B,B]) (Z [(4,D)]) OH []<|V [(1,jn [(4,D)])]
def Bvw:=fk0 func288 (O [N c'2,B,N Oa]) (rh [(6,C 96),(7,B)] [(96,Wa)]) Ot [Q88]
def Bvx:=fkl func253 (z [(0,C 65536)] [(65536,Cs)]) [ry [] [(65536,Cs)],(.normal,su [] [(65536,Cs)])] EY [Bvm,Bvs,Bd4,Bvu,Bvv,Q69,Bvw] (jl [(7,nu [(0,C 65536),(2,C 32),(3,C 48),(4,i 0 4),(6,B)] [(32,c'5),(48,[A,A]),(65536,ZM)]),(9,nu [(0,C 65536),(2,C 32),(3,C 48),(6,B)] [(32,c'5),(48,[A,A]),(65536,Cs)]),(1048579,nu [(0,C 65536),(2,C 32),(3,C 48),(4,i 0 4),(6,B)] [(32,c'5),(48,[A,A]),(65536,ZM)]),(1048583,nu [(0,C 65536),(2,C 32),(3,C 48),(6,B)] [(32,c'5),(48,[A,A]),(65536,Cs)]),(1048590,nu [(0,C 65536),(2,C 32),(3,C 48),(6,B),(7,B),(79,Y 3),(80,B),(81,B),(117,D)] [(32,c'5),(48,[A,A]),(65536,Cs)])]) (su [(0,C 65536),(2,C 32),(3,C 48),(6,B),(79,Y 3),(80,B),(81,B)] [(32,c'5),(48,[A,A]),(65536,Cs)]) [xu 0 [] [(65536,Cs)]] Et
def Bvy:=fkj func201 (z [(0,C 65536)] [(65536,Cs)]) (nu [] [(65536,Cs)]) DI [Bvx]<|V [(1,nu [] [(65536,Cs)])]
def Bmg:=fkj func297 (O [N c'5,B]) (Z [(4,D)]) IM [Bl1]<|V [(4,jn [(4,D)])]
def Bvz:=fkl func344 (O [Y 191]) (rh [(2,C 32)] [(32,[J,J])]) NL [Xr,VY] (V []) (z [(2,C 32),(3,C 48),(6,Y 191),(7,B),(8,B)] [(32,[J,J]),(48,[J,J])]) [xh 0 [(2,C 32),(3,C 48)] [(32,[J,J]),(48,[J,J])]] Re
def Bv0:=fk0 func345 (O [N c'2,N Ma,N [A,W,A,W]]) (rh [(6,C 96)] [(96,[J,J])]) PX [Q96,Bd0]
def Bv1:=fkj func298 (O [N c'2,N HX,B,N [A,W,A,W]]) (rh [(8,C 128)] [(128,Wc)]) PV [Bl2,Bmg,Avr,Bvz,Bv0,Bd1]<|jl [(12,jh [(2,B),(4,C 64),(5,C 80),(8,C 128),(10,C 160),(11,C 176)] [(64,c'2),(80,HX),(128,Wc),(160,Ma),(176,Wc)]),(1048579,jh [(2,B),(4,C 64),(5,C 80),(7,C 112),(8,C 128),(9,B),(10,C 160),(11,C 176)] [(64,c'2),(80,HX),(112,[A,W,A,W]),(128,Wc),(160,Ma),(176,Wc)])]
def Bv2:=fkl func255 (O [.one<|.rp 282 0]) (Z [(2,i 0 451)]) DM [Bmg,Bv1] (V [(7,jn [(0,.one<|.rp 282 0),(3,i 0 451),(14,B),(15,B)])]) (sp [(0,.one<|.rp 282 0),(3,i 0 451),(14,B),(15,B)]) [xt 0 [(3,i 0 451)]] EZ
def Bmh:=fk0 func333 (O [N c'2,N Wc]) (rh [(4,C 64)] [(64,[J,J])]) HR [Adm,Adn]
def Bv3:=fkl func289 (O [N c'2,Y 451,Y 66]) (rh [(6,C 96),(7,B)] [(96,Awi)]) Lu [Q17,Bmh,Aod,VY] (V []) (z [(2,Y 66),(3,C 48),(6,C 96),(8,C 128),(32,Y 451),(33,B),(34,B)] [(48,c'2),(96,Awi),(128,Bnm)]) [xh 0 [(6,C 96),(8,C 128)] [(96,Awi),(128,Bnm)]] MR
def Bv4:=fkj func334 (O [B]) (Z [(2,D)]) GU []<|V [(1,jn [(2,D)])]
def Bv5:=fkl func62 (O [Y 3,.one<|.clo 334 [] []]) (Z [(4,B)]) Ce [Bv4] (V []) (sp [(0,Y 3),(1,.one<|.clo 334 [] []),(7,B),(8,B)]) [xt 0 [],rx [(4,B)]] BT
def Bv6:=fk0 func31 (O [Y 3,.one<|.clo 334 [] []]) (Z [(4,D)]) Bb [Bv5]
def Bv7:=fkj func290 (O [N c'5,Y 3]) (Z [(4,D)]) Ii [Bv6]<|V [(1,jn [(4,D)])]
def Bv8:=fk0 func291 (O [N c'5]) (rh [(2,C 32)] [(32,c'4)]) MN [Q65,Q66,Q67]
def Bv9:=fk0 func292 (O [B]) (rh [(2,C 32)] [(32,Awi)]) Ox []
def Ay2:Sp:=z [(3,C 48),(4,C 64),(7,C 112),(25,Y 451),(26,B),(27,B)] [(48,c'2),(64,c'5),(112,[J,J])]
def Azq:SL:=[xh 0 [(4,C 64),(7,C 112)] [(64,c'5),(112,[J,J])]]
def Ay3:Sp:=z [(7,C 112),(10,i 0 315),(38,Y 68),(39,B),(40,B)] [(112,[J,J])]
def Azr:SL:=[xt 2 [(10,i 0 315)]]
def t258:List KP:=[Q46,Bmh,VY,Q166]
def Bdt:LP:=pl [aC Ay2 Azq Jy,aC Ay3 Azr Jz]
def Bot:LK f294 Bdt 1:=lk0 t258 (V []) 2 Ay3 Azr Jz
def Bos:LK f294 Bdt 0:=lk0 t258 (V []) 1 Ay2 Azq Jy
def Bwa:=fk1 func294 (O [N c'2,N c'5,Y 451]) (Z [(6,i 0 315)]) Lv t258 (V []) Bdt<|aa<|AM Bos<|AM Bot CC
def Bwb:=fkj func368 (z [(0,N [A,A,A,A,W]),(1,C 65536),(2,C 65537)] [(65536,[A]),(65537,[A])]) [(.ret,⟨[(4,D)],[(65536,[A]),(65537,[A])],[65536,65537]⟩)] IL []<|V [(1,[(.normal,⟨[(4,D)],[(65536,[A]),(65537,[A])],[65536,65537]⟩)])]
def Bwc:=fkl func367 (z [(0,Y 68),(1,.one<|.clo 368 [] [(65536,0),(65537,0)])] [(65536,[A]),(65537,[A])]) [(.ret,⟨[(4,B)],[(65536,[A]),(65537,[A])],[65536,65537]⟩)] Bt [Bwb] (V []) (⟨[(0,Y 68),(1,.one<|.clo 368 [] [(65536,0),(65537,0)]),(7,B),(8,B)],[(65536,[A]),(65537,[A])],[65536,65537]⟩) [(.exit 0,⟨[],[(65536,[A]),(65537,[A])],[65536,65537]⟩),(.ret,⟨[(4,B)],[(65536,[A]),(65537,[A])],[65536,65537]⟩)] Bk
def Bwd:=fkj func335 (O [N c'5,B,B]) (Z [(6,B),(7,D)]) Kq [Bwc]<|V [(4,jn [(6,B),(7,D)])]
def Bwe:=hq func336 (sp [(0,i 0 3),(1,B),(2,B)]) (Z [(6,i 0 3)]) EC<|Apx (r:=6) (t:=3) aD ⟨_,Tryz.func336,κ,κ⟩ (by intro h;cases h) (λ_=>rfl)<|Ad8
def Bwf:=hq func337 (sp [(0,i 0 3),(1,B),(2,i 1 3)]) (Z [(6,i 0 3)]) ED<|Aeq (r:=6) (t:=3) aD ⟨_,Tryz.func337,κ,κ⟩ (by intro h;cases h) (λ_=>rfl)<|Aep
def Bmi:=fkl func293 (z [(0,C 65536),(1,Y 315)] [(65536,Wd)]) (nu [] [(65536,Wd)]) Bq [Bwd,Bwe,Bwf,Bme] (jl [(9,nu [(0,C 65536),(5,C 80),(10,Y 315),(11,B),(12,B)] [(80,[A,A,A,A,A]),(65536,Wd)]),(1048580,nu [(0,C 65536),(5,C 80),(6,B),(7,D),(10,Y 315),(11,B),(12,B),(29,D)] [(80,[A,A,A,A,A]),(65536,Wd)]),(1048582,nu [(0,C 65536),(5,C 80),(6,B),(10,Y 315),(11,B),(12,B),(49,D)] [(80,[A,A,A,A,A]),(65536,Wd)])]) (su [(0,C 65536),(10,Y 315),(11,B),(12,B)] [(65536,Wd)]) [xu 0 [] [(65536,Wd)]] Du
def Bwg:=fkl func299 (O [Y 68]) (rh [(2,C 32)] [(32,[J,J])]) Ss [Xr,VY] (V []) (z [(2,C 32),(3,C 48),(6,Y 68),(7,B),(8,B)] [(32,[J,J]),(48,[J,J])]) [xh 0 [(2,C 32),(3,C 48)] [(32,[J,J]),(48,[J,J])]] TD
def Bmj:=fk0 func256 (O [N c'5]) (rh [(2,C 32)] [(32,[J,J])]) GV [Bwg]
def Bd5:=hq func72 (sp [(0,N [J,J])]) (Z [(2,i 0 68)]) JF (e:=Bim G 2 68 (λu d f k=>DV u d f k) (λf d=>Entry.mk f d (-1) 0 false))<|Bpf (t:=68) (h:=(λu d f k=>DV u d f k)) (mk:=λf d=>Entry.mk f d (-1) 0 false) aD ⟨_,Tryz.func72,κ,κ⟩ κ (λ_ _=>by kernel_rfl) (λw u d hb hh hgl=>Bf4 w u d hb λp hp w' hw=>Bbl (h:=(λu d f k=>DV u d f k)) ((show Q166.e=Ans G 6 (λu d f k=>DV u d f k)by kernel_rfl)▸Q166.k) (hh p hp) (hgl.below hw) hw.size)
def Bwh:=fkl func295 (z [(0,C 65536),(1,N [J,J]),(2,N [J,J])] [(65536,Wd)]) (nu [] [(65536,Wd)]) Dg [Adm,Adn,Aod,Bd5,Bmf,Bmi,Xr,VY] (V []) (su [(0,C 65536),(17,i 0 68),(18,B),(19,B)] [(65536,By2)]) [xu 0 [] [(65536,Wd)]] Eh
def Bwi:=fkj func338 (O [B]) (Z [(2,D)]) Lo []<|V [(1,jn [(2,D)])]
def Bwj:=fkl func62 (O [Y 3,.one<|.clo 338 [] []]) (Z [(4,B)]) CN [Bwi] (V []) (sp [(0,Y 3),(1,.one<|.clo 338 [] []),(7,B),(8,B)]) [xt 0 [],rx [(4,B)]] CG
def Bwk:=fk0 func31 (O [Y 3,.one<|.clo 338 [] []]) (Z [(4,D)]) Bu [Bwj]
def Bmk:=fkj func383 (O [B]) (Z [(2,D)]) Lq []<|V [(1,jn [(2,D)])]
def Bwl:=fkj func384 (O [B,B,B]) (Z [(6,D)]) RK []<|V [(1,jn [(6,D)])]
def Bml:=fk0 func385 (O [B,N [J,J,J]]) (rh [(4,C 64)] [(64,[J,J,J])]) Mo [Adn]
def Bwm:=fkl func386 (z [(0,i 0 3),(1,C 65536),(2,C 65537)] [(65536,[A]),(65537,[A])]) [(.ret,⟨[(4,B)],[(65536,[A]),(65537,[A])],[65536,65537]⟩)] CD [] (V []) (⟨[(5,B),(6,B),(13,i 0 3),(14,B),(15,B)],[(65536,[A]),(65537,[A])],[65536,65537]⟩) [(.exit 0,⟨[(5,B)],[(65536,[A]),(65537,[A])],[65536,65537]⟩)] Nf
def Bwn:=fkj func373 (O [B,B,B,N [J,J,J],B,B]) (Z [(12,B)]) VS [Bmk,Bwl,Bml,Bdy,Bl7,Bwm]<|V [(7,jh [(2,B),(5,B),(15,B),(16,B),(17,.one<|.clo 386 [] [(112,0),(160,0)]),(18,D)] [(112,[A]),(160,[A])]),(8,jh [(2,B),(5,B),(15,B),(16,B),(17,.one<|.clo 386 [] [(112,0),(160,0)]),(87,D)] [(112,[A]),(160,[A])]),(10,jh [(2,B),(5,B),(15,B),(16,B),(17,.one<|.clo 386 [] [(112,0),(160,0)]),(100,D)] [(112,[A]),(160,[A])])]
def Bwo:=fk0 func387 (O [N [J,J]]) (Z [(2,B)]) RJ [Bdz]
def Bwp:=fk0 func374 (O [B,N [J,J,J]]) (Z [(4,B)]) Tv [Bmk,Bml,Bdz,Bwo]
def Bmm:=fkj func341 (O [N c'2,B,N Wc,B,B]) (Z [(10,B)]) Fm [Q17,Bwn,Bwp]<|jl [(7,jh [(1,B),(3,B),(4,B),(5,C 80),(7,C 112),(11,B)] [(80,c'2),(112,Wc)])]
def Bmn:=fkj func382 (O [N Wc]) (Z [(2,D)]) Hg []<|V [(1,jn [(2,D)])]
def Bmo:=fk0 func380 (O [N c'2,Y 451,B,B,B]) (rh [(10,C 160)] [(160,[A,A])]) KR [Bmm,Bmn]
def Bmp:=fkj func381 (O [N [A,A],N [A,A]]) (Z [(4,D)]) IJ []<|V [(3,jn [(4,D)])]
def Bmq:=fkl func371 (O [N c'2,Y 451,B,B,B]) (Z [(10,B)]) GT [Q17,Bmo,Bmp] (V [(9,jh [(1,Y 451),(2,B),(3,B),(4,B),(5,C 80),(11,B),(12,C 192),(13,B),(15,C 240),(28,Y 451),(29,B),(30,B),(55,D)] [(80,c'2),(192,[A,A]),(240,[A,A])])]) (z [(1,Y 451),(2,B),(3,B),(4,B),(5,C 80),(11,B),(12,C 192),(28,Y 451),(29,B),(30,B)] [(80,c'2),(192,[A,A])]) [xt 0 [(11,B)]] MP
def Bwq:=fkj func372 (O [N Ad1,N [A,A,A,A,W],B]) (Z [(6,B)]) GB [Bmq,Bmo,Bmp,Bmn]<|V [(5,jh [(3,C 48),(7,B),(8,C 128),(9,D)] [(48,Ad1),(128,Wc)]),(6,jn [(7,B),(78,D)])]
def Bwr:=fkj func339 (O [N Ad1,N [A,A,A,A,W],B]) (rh [(6,C 96)] [(96,[A,A,A,A,W])]) FY [Bmq,Bwq]<|V [(5,jh [(2,B),(3,C 48),(4,C 64),(6,C 96),(7,B),(31,D)] [(48,Ad1),(64,[A,A,A,A,W]),(96,[A,A,A,A,W])]),(10,jh [(2,B),(3,C 48),(4,C 64),(6,C 96),(70,D)] [(48,Ad1),(64,[A,A,A,A,W]),(96,[A,A,A,A,W])])]
def Bws:=fkj func340 (O [N [A,A,A,A,W],N [A,A,A,A,W]]) (Z [(4,i 0 315)]) Km []<|jl [(8,jh [(2,C 32),(3,C 48),(5,i 0 315)] [(32,[A,A,A,A,W]),(48,[A,A,A,A,W])]),(1048578,jh [(2,C 32),(3,C 48),(5,i 0 315),(18,D)] [(32,[A,A,A,A,W]),(48,[A,A,A,A,W])])]
def Bwt:=fkl func296 (O [N c'2,N c'5,Y 3,Y 451]) (Z [(8,i 0 315),(9,i 1 3),(10,B)]) Iz [Q46,Bwk,Bwr,Bws,Bmm] (V [(12,jh [(2,Y 3),(3,Y 451),(4,C 64),(11,C 176),(12,i 0 315),(13,i 1 3),(14,B),(15,C 240),(16,C 256),(48,Y 68),(49,B),(50,B),(85,D)] [(64,c'2),(176,Ad1),(240,[A,A,A,A,W]),(256,[A,A,A,A,W])])]) (z [(2,Y 3),(3,Y 451),(4,C 64),(11,C 176),(12,i 0 315),(13,i 1 3),(48,Y 68),(49,B),(50,B)] [(64,c'2),(176,Ad1)]) [xt 0 [(12,i 0 315),(13,i 1 3)]] OK
def Bwu:=fkj func254 (O [N c'2,N c'5,Y 3,Y 451,Y 66,N [J,J],D]) (rh [(14,C 224),(15,B)] [(224,Bet)]) Lr [Bv3,Q46,Bv7,Bv8,Q65,Bv9,Bwa,Bmi,Bmj,Bwh,Bwt]<|jl [(11,jh [(3,Y 451),(7,C 112),(14,C 224),(18,C 736)] [(112,c'2),(224,Bet),(736,By3)])]
def Ay4:Sp:=su [(0,C 65536),(2,C 32),(82,Y 315),(83,B),(84,B)] [(32,Beu),(65536,Bev)]
def Azs:SL:=[xu 0 [(0,C 65536),(2,C 32)] [(32,Beu),(65536,Bev)]]
def Ay5:Sp:=su [(0,C 65536),(2,C 32),(112,B),(113,B)] [(32,Beu),(65536,Bev)]
def Azt:SL:=[xu 2 [] [(65536,Cs)]]
def Bdq:=jl [(7,nu [(0,C 65536),(2,C 32)] [(32,By4),(65536,By5)]),(1048577,nu [(0,C 65536),(2,C 32)] [(32,Bet),(65536,By6)])]
def t289:List KP:=[Bv2,Bwu,Bd4,Blt,Xr,VY]
def Bdu:LP:=pl [aC Ay4 Azs CQ,aC Ay5 Azt CR]
def Bov:LK f202 Bdu 1:=lk0 t289 Bdq 2 Ay5 Azt CR
def Bou:LK f202 Bdu 0:=lk0 t289 Bdq 1 Ay4 Azs CQ
def Bwv:=fk1 func202 (z [(0,C 65536)] [(65536,Cs)]) (nu [] [(65536,Cs)]) EI t289 Bdq Bdu<|aa<|AM Bou<|AM Bov CC
def Bww:=fkl func300 (O [Y 191,N [A,A,A],.one<|.clo 193 [] []]) (Z [(6,B),(7,D)]) AR [Q87] (V [(8,jn [(6,B),(7,D)])]) (z [(0,Y 191),(2,.one<|.clo 193 [] []),(4,C 64),(8,B),(9,B),(10,B)] [(64,[A,A,A])]) [xh 0 [(0,Y 191),(2,.one<|.clo 193 [] []),(4,C 64),(8,B),(9,B)] [(64,[A,A,A])]] AP
def Bwx:=hq func301 (sp [(0,i 0 191),(1,B),(2,i 1 191)]) (Z [(6,i 0 191)]) DQ<|Aeq (r:=6) (t:=191) aD ⟨_,Tryz.func301,κ,κ⟩ (by intro h;cases h) (λ_=>rfl)<|Aeo
def Bwy:=fkl func257 (O [N c'2,B,N Oa,N [J,J]]) (rh [(8,C 128),(9,B)] [(128,Wa)]) Ou [Q88,Adm,Adn,Bd5,Bww,Bwx] (V [(14,jh [(6,C 96),(8,C 128)] [(96,Wa),(128,Ai0)])]) (z [(6,C 96),(8,C 128),(36,i 0 68),(37,B),(38,B)] [(96,Ai0),(128,By7)]) [xh 0 [(6,C 96),(8,C 128)] [(96,Wa),(128,Ai0)]] MQ
def Bwz:=fkj func304 (O [B]) (Z [(2,D)]) Mq []<|V [(1,jn [(2,D)])]
def Bw0:=fkl func259 (O [N c'2,B,B,N Oa]) (rh [(8,C 128)] [(128,[J,J,W])]) Mp [Bwz,Q88,Xr,VY] (V []) (z [(1,B),(4,C 64),(8,C 128),(9,C 144),(24,Y 191),(25,B),(26,B)] [(64,c'2),(128,[J,J,W]),(144,[J,J,W])]) [xh 0 [(8,C 128),(9,C 144)] [(128,[J,J,W]),(144,[J,J,W])]] NQ
def Bw1:=fkj func260 (O [B,B]) (Z [(4,D)]) Kt []<|V [(1,jn [(4,D)])]
def Bw2:=fkl func203 (z [(0,C 65536)] [(65536,Cs)]) (nu [] [(65536,Cs)]) DF [Bmj,Avr,Bd1,Bwy,Bw0,Bw1] (jl [(7,nu [(0,C 65536),(2,B),(3,B),(29,Y 3),(30,B),(31,B)] [(65536,Cs)]),(1048580,nu [(0,C 65536),(2,B),(3,B),(29,Y 3),(30,B),(31,B),(49,D)] [(65536,Cs)])]) (su [(0,C 65536),(29,Y 3),(30,B),(31,B)] [(65536,Cs)]) [xu 0 [] [(65536,Cs)]] Dh
def Ay6:List<|Sp×(Nat->Option SL):=[(su [(0,C 65536),(14,.one<|.sa 224 0 5),(15,.one<|.lit .i64 5),(16,.one<|.lit .i64 0)] [(224,Ad2),(65536,Awh)],V [(3,nu [(0,C 65536),(14,.one<|.sa 224 0 5),(15,.one<|.lit .i64 5),(16,.one<|.lit .i64 0)] [(224,Ad2),(65536,Cs)])]),(su [(0,C 65536),(14,.one<|.sa 224 0 5),(15,.one<|.lit .i64 5),(16,.one<|.lit .i64 1)] [(224,Ad2),(65536,Cs)],V []),(su [(0,C 65536),(14,.one<|.sa 224 0 5),(15,.one<|.lit .i64 5),(16,.one<|.lit .i64 2)] [(224,Ad2),(65536,Cs)],V []),(su [(0,C 65536),(14,.one<|.sa 224 0 5),(15,.one<|.lit .i64 5),(16,.one<|.lit .i64 3)] [(224,Ad2),(65536,Cs)],V []),(su [(0,C 65536),(14,.one<|.sa 224 0 5),(15,.one<|.lit .i64 5),(16,.one<|.lit .i64 4)] [(224,Ad2),(65536,Cs)],V []),(su [(0,C 65536),(14,.one<|.sa 224 0 5),(15,.one<|.lit .i64 5),(16,.one<|.lit .i64 5)] [(224,Ad2),(65536,Cs)],V [])]
def t297:List KP:=[Bun,Bvj,Bvy,Bwv,Bw2]
def Bla:LP:=pl [lpN<|rN (cfQ<|KL t297) 28 (Ui (cfQ<|KL t297) 28) (pl []) (λ_=>[]) 1 (Px (Bf f158) 0) Ay6]
def Bow:LK f158 Bla 0:=lkn cx (KLs t297) (pl []) 1 Ay6
def Bw3:=fk1 func158 (z [(0,C 65536)] [(65536,Awh)]) [ry [] [(65536,Cs)],(.normal,su [] [(65536,Cs)])] GG t297 (V []) Bla<|aa<|AM Bow CC
def Bw4:=fkj func99 (O [N c'2,N HX,os,B]) (rh [(8,C 128),(9,C 144),(10,B)] [(128,Bnn),(144,Bno)]) PU [Bug,Blp,Bls,Blq,Blr,Bw3]<|V [(5,jh [(8,C 128),(9,C 144),(14,C 640)] [(128,RZ),(144,By8),(640,By9)])]
def Bw5:=fk0 func67 (O [N c'2,N HX,os,B]) (rh [(8,C 128),(9,C 144),(10,B)] [(128,Bnn),(144,Bno)]) Mv [Blb,Bua,Bw4]
def Bw6:=fkj func68 (z [(0,C 65536),(1,B),(2,B),(3,B)] [(65536,Ao7)]) (nu [] [(65536,Ao7)]) Kx [Q77,Q76]<|V [(2,nu [(0,C 65536),(1,B),(2,B),(3,B),(26,D)] [(65536,Ao7)]),(4,nu [(0,C 65536),(1,B),(52,D)] [(65536,Ao7)])]
def Bmr:=fk0 func167 (O [N Jo,B,B]) (rh [(6,C 96)] [(96,Jo)]) Ny [Ble]
def Bw7:=fk0 func168 (O [B,N c'3,N Jo]) (rh [(6,C 96)] [(96,Jo)]) PY [Bmb,Bmc,Bmr]
def Bw8:=fkj func104 (O [B,N c'3,N Jo]) (rh [(6,C 96)] [(96,Jo)]) TB [Bmr,Bld,Bw7]<|jl [(9,[(.normal,z [(0,B),(4,C 64),(5,C 80),(6,C 96)] [(64,c'3),(80,Jo),(96,Jo)]),yh [(6,C 96)] [(96,Jo)]])]
def Bw9:=fkj func69 (O [N c'2,B,N Jo,N [J,J],o4]) (rh [(10,C 160)] [(160,Jo)]) TA [Blf,Q76,Adm,Adn,VY,Bw8,Xr,Aod]<|jl [(9,jh [(7,C 112),(10,C 160)] [(112,Jo),(160,Jo)])]
def Bxa:=fk0 func107 (O [N JX,B]) (Z [(4,B)]) SG []
def Bxb:=fk0 func108 (O [N JX]) (rh [(2,C 32)] [(32,JX)]) LT []
def Bxc:=fk0 func111 (O [N JX,B]) (Z [(4,B)]) UV []
def Bxd:=fkj func110 (O [N JX,B,B]) (rh [(6,C 96)] [(96,JX)]) Xp []<|jl [(7,[(.normal,z [(1,B),(3,C 48),(6,C 96)] [(48,JX),(96,JX)]),yh [(6,C 96)] [(96,JX)]]),(1048580,jh [(1,B),(2,B),(3,C 48),(6,C 96),(23,D)] [(48,JX),(96,JX)])]
def Bxe:=fkj func70 (O [B,N JX,B,B]) (rh [(8,C 128)] [(128,JX)]) SF [Blh,Q77,Bxa,Bxb,Blg,Bxc,Bxd]<|V [(8,jh [(2,B),(3,B),(5,C 80),(8,C 128),(9,B),(31,D)] [(80,JX),(128,JX)])]
def Q310:=fkl func35 (O [N c'2,N Lj,N ZK,B]) (rh [(8,C 128),(9,C 144),(10,B)] [(128,Ao7),(144,We)]) QE [Bt1,Bt7,Bln,Blo,Bw5,Bw6,Bw9,Bxe] (jl [(8,jh [(3,B),(4,C 64),(5,C 80),(6,C 96),(8,C 128),(9,C 144),(13,os)] [(64,c'2),(80,Lj),(96,ZK),(128,NZ),(144,Awj)]),(19,jh [(4,C 64),(5,C 80),(6,C 96),(8,C 128),(9,C 144),(15,C 240),(17,C 272),(18,B),(19,C 304),(74,Y 181),(75,B),(76,B)] [(64,c'2),(80,Lj),(96,ZK),(128,NZ),(144,Awj),(240,Bew),(272,We),(304,Bnp)])]) (z [(4,C 64),(5,C 80),(6,C 96),(8,C 128),(9,C 144),(15,C 240),(17,C 272),(74,Y 181),(75,B),(76,B)] [(64,c'2),(80,Lj),(96,ZK),(128,NZ),(144,Awj),(240,Bew),(272,We)]) [xh 0 [(8,C 128),(9,C 144),(15,C 240),(17,C 272)] [(128,NZ),(144,Awj),(240,Bew),(272,We)]] RW
def Q311:=hq func71 (sp [(0,B)]) (Z [(2,os)]) BL (e:=Big G 2 Bfn)<|Bsp ⟨_,Tryz.func71,κ,κ⟩ (λ_ _ h=>Bfo h) (λw n h hl=>Bj5 Tryz.laysM171 (g:=4) κ (t:=405) (x:=()) κ κ κ w n h hl)
def Ay7:Sp:=z [(2,C 32),(3,C 48),(5,i 0 9),(33,i 1 68),(34,B),(35,B)] [(32,c'5),(48,We)]
def Azu:SL:=[xh 0 [(2,C 32),(3,C 48),(5,i 0 9)] [(32,c'5),(48,We)]]
def Ay8:Sp:=z [(2,C 32),(5,i 0 9),(53,Y 181),(54,B),(55,B)] [(32,c'5)]
def Azv:SL:=[xt 2 [(5,i 0 9)]]
def Bdr:=jl [(5,jh [(2,C 32),(3,C 48),(5,i 0 9)] [(32,c'5),(48,We)]),(7,jh [(2,C 32),(3,C 48),(5,i 0 9)] [(32,c'5),(48,We)]),(9,jh [(2,C 32),(3,C 48),(5,i 0 9)] [(32,c'5),(48,We)]),(19,jh [(2,C 32),(5,i 0 9),(8,B),(9,C 144),(53,Y 181),(54,B),(55,B)] [(32,c'5),(144,Bnp)]),(23,jh [(2,C 32),(5,i 0 9),(8,B),(10,os),(53,Y 181),(54,B),(55,B)] [(32,c'5)])]
def t312:List KP:=[Q311,Bd5]
def Bdv:LP:=pl [aC Ay7 Azu LC,aC Ay8 Azv LD]
def Boy:LK f37 Bdv 1:=lk0 t312 Bdr 2 Ay8 Azv LD
def Box:LK f37 Bdv 0:=lk0 t312 Bdr 1 Ay7 Azu LC
def Q312:=fk1 func37 (O [N c'5,N We]) (Z [(4,i 0 9)]) KY t312 Bdr Bdv<|aa<|AM Box<|AM Boy CC
def Q313:=fkj func38 (O [N c'2,N Lj,B]) (rh [(6,C 96),(7,B)] [(96,NZ)]) MC [Bli,Q71,Bln,Blo]<|V [(4,jh [(4,C 64),(6,C 96),(8,C 128),(10,B),(31,D)] [(64,Lj),(96,NZ),(128,Bza)])]
def Q314:=hq func39 (sp [(0,Y 9),(1,os)]) (Z [(4,os)]) HG (e:=Bih G 4 9 Ajs)<|Bsq (G:=G) ⟨_,Tryz.func39,κ,κ⟩ (t:=9) (F:=Ajs) κ (toS:=λs=>s) (λ_=>rfl) (λ_ _ _ h=>Bfq h) (λw b o c xs q h1 h2 h3 h4 h5=>Bj7 Tryz.lays156 Tryz.Builder_Extra_156 w b o c xs q h1 h2 h3 h4 h5) (λw a c q=>Bfr Tryz.lays156 Tryz.Builder_Extra_156 w a c q)
def Q315:=fkl func36 (z [(0,C 65536),(1,D)] [(65536,Bex)]) (ru [(4,C 64)] [(64,Bzb),(65536,Bzc)]) Br [] (V []) (su [(0,C 65536),(4,C 64),(5,C 80),(24,i 0 3),(25,B),(26,B)] [(64,Bzd),(80,Bze),(65536,Bzf)]) [xu 0 [(0,C 65536),(4,C 64),(5,C 80)] [(64,Bzg),(80,Bzh),(65536,Bzi)]] Fb
def I316:Sp:=z [(0,C 65536),(1,D),(2,B)] [(65536,Awk)]
def Bdn:SL:=nu [] [(65536,Awk)]
def Bkl(v0:Bool)(v1 v2 v3 v4:Int)(v5 v6 v7:Nat)(v8:List Car)(v9:List Int)(v10 v11:List Bool)(v12:List Entry)(v13 v14:ByteArray)(v15:Int)(v16:List Debounced)(v17:List Belief)(v18:List NewCar)(v19:List Loaded)(v20:List Int)(v21:List Calls)(v22 v23 v24:Int)(v25:List Relay)(v26:List Rig)(v27 v28 v29 v30:Int)(v31 v32:List Int)(v33:List Bool)(v34:List Nat)(v35:Bool)(v36:List Int)(v37:Int)(v38:List Line):Al (Br v0 v1 v2 v3 v4 v5 v6 v7 v8 v9 v10 v11 v12 v13 v14 v15 v16 v17 v18 v19 v20 v21 v22 v23 v24 v25 v26 v27 v28 v29 v30 v31 v32 v33 v34 v35 v36 v37 v38) λy=>∃r,y.2.2.1=(v1,v2,v3,v4,v5,v6,v7,v8,v9,v10,v11,v12,v13,v14,v15,v16,v17,v18,v19,v20,v21,v22,v23,v24,v25,v26,r):=by
 unfold Br;refine Al.bif (Al.bind (λy=>∃r,y.2.2.2.1=(v1,v2,v3,v4,v5,v6,v7,v8,v9,v10,v11,v12,v13,v14,v15,v16,v17,v18,v19,v20,v21,v22,v23,v24,v25,v26,r)) (Al.iter (λx=>∃r,x.2.2.2.1=(v1,v2,v3,v4,v5,v6,v7,v8,v9,v10,v11,v12,v13,v14,v15,v16,v17,v18,v19,v20,v21,v22,v23,v24,v25,v26,r)) (λx h=>?_) _ _ ⟨_,rfl⟩) λy h=>?_) Al.no
 .unfold Dv;obtain⟨r,h⟩:=h;obtain⟨x1,x2,x3,x4,x5⟩:=x;change x4=_ at h;subst h
  repeat first|exact Al.no|exact Al.ret ⟨_,rfl⟩|refine Al.bif ?_ ?_
 .obtain⟨r,h⟩:=h;obtain⟨x1,x2,x3,x4,x5⟩:=y;change x4=_ at h;subst h
  repeat first|exact Al.no|exact Al.ret ⟨_,rfl⟩|refine Al.bif ?_ ?_
def Bdp(v0:Bool)(v1 v2 v3 v4 v5:Int)(v6 v7 v8:Nat)(v9:List Car)(v10:List Int)(v11 v12:List Bool)(v13:List Entry)(v14 v15:ByteArray)(v16:Int)(v17:List Debounced)(v18:List Belief)(v19:List NewCar)(v20:List Loaded)(v21:List Int)(v22:List Calls)(v23 v24 v25:Int)(v26:List Relay)(v27:List Rig)(v28 v29 v30 v31:Int)(v32 v33:List Int)(v34:List Bool)(v35:List Nat)(v36:Bool)(v37:List Int)(v38:Int)(v39:List Line):Option<|Unit×(SI×Unit):=letI ap:=Option<|List<|Cv G.T;aK (aB (((),v0,v1,(),()),((v10,v11,v12,v13,()),(v2,v3,v4,v5,v6,v7,v8,v9,v10,v11,v12,v13,v14,v15,v16,v17,v18,v19,v20,v21,v22,v23,v24,v25,v26,v27,v28,v29,v30,v31,v32,v33,v34,v35,v36,v37,aH.wrap<|v38+1,v39,()),()))) λy1=>letI cp:=y1.2;letI cq:=cp.2.1;letI w:=cq.2;letI av:=w.2;letI bf:=av.2;letI ct:=bf.2;letI f:=ct.2;letI bq:=f.2;letI cu:=bq.2;letI o:=cu.2;letI af:=o.2;letI am:=af.2;letI bg:=am.2;letI cv:=bg.2;letI b:=cv.2;letI dr:=b.2;letI u:=dr.2;letI ag:=u.2;letI an:=ag.2;letI bh:=an.2;letI cx:=bh.2;letI e:=cx.2;letI aw:=e.2;letI bi:=aw.2;letI cy:=bi.2;letI l:=cy.2;letI br:=l.2;letI cz:=br.2;letI v:=cz.2.2.2;letI ax:=v.2.2.2;letI ca:=ax.2;letI da:=ca.2;letI dh:=cp.1;(Br y1.1.2.1 cq.1 w.1 av.1 bf.1 ct.1 f.1 bq.1 cu.1 o.1 af.1 am.1 bg.1 cv.1 b.1 dr.1 u.1 ag.1 an.1 bh.1 cx.1 e.1 aw.1 bi.1 cy.1 l.1 br.1 cz.1 cz.2.1 cz.2.2.1 v.1 v.2.1 v.2.2.1 ax.1 ca.1 da.1 da.2.1 da.2.2.1 da.2.2.2.1).bind λy2=>letI db:=y2.2;letI dc:=db.2.1;letI aa:=dc.2;letI ao:=aa.2;letI bj:=ao.2;letI dg:=bj.2;letI h:=dg.2;letI bb:=h.2;letI bv:=bb.2;letI q:=bv.2.2;letI ak:=q.2.2;letI bk:=ak.2;letI cc:=bk.2;letI a:=cc.2.2;letI ae:=a.2.2;letI aq:=ae.2;letI bl:=aq.2;letI cd:=bl.2;letI j:=cd.2.2;letI bc:=j.2;letI bm:=bc.2;letI ce:=bm.2;letI s:=ce.2.2.2;letI ay:=s.2.2.2;letI bz:=ay.2.2.2;letI dd:=db.1;letI aj:=dd.2.2.2;letI bs:=aj.2.2;letI de:=bs.2;letI d:=((dc.1,aa.1,ao.1,bj.1,dg.1,h.1,bb.1,bv.1,bv.2.1,q.1,q.2.1,ak.1,bk.1,cc.1,cc.2.1,a.1,a.2.1,ae.1,aq.1,bl.1,cd.1,cd.2.1,j.1,bc.1,bm.1,ce.1,ce.2.1,ce.2.2.1,s.1,s.2.1,s.2.2.1,ay.1,ay.2.1,de.2.1,bz.1,bz.2.1,bz.2.2.1,bz.2.2.2.1,()),());(QE cq.1 w.1 av.1 bf.1 ct.1 f.1 bq.1 cu.1 o.1 af.1 am.1 bg.1 cv.1 b.1 dr.1 u.1 ag.1 an.1 bh.1 cx.1 e.1 aw.1 bi.1 cy.1 l.1 br.1 dd.1 dd.2.1 dd.2.2.1 aj.1 aj.2.1 bs.1 de.1 de.2.1 de.2.2.1 y1.1.2.2.1).bind λy3=>letI ds:=y3.2;letI dt:=ds.1;letI be:=dt.2.2;letI ch:=be.2;letI dj:=ch.2;letI m:=dj.2.2.2;letI dv:=m.2;letI ah:=dv.2.2.2;letI du:=ds.2.1;letI au:=du.2.2;letI bt:=ah.2.2;letI cg:=au.2;letI di:=cg.2;letI dm:=bt.2;cond (eqQ (aB [.sc<|.int .i64 dc.1,.sc<|.int .i64 aa.1,.sc<|.int .i64 ao.1,.sc<|.int .i64 bj.1,.sc<|.float .f64 dg.1,.sc<|.float .f64 h.1,.sc<|.float .f64 bb.1,.ro 83 bv.1]:ap) (aB [.sc<|.int .i64 cq.1,.sc<|.int .i64 w.1,.sc<|.int .i64 av.1,.sc<|.int .i64 bf.1,.sc<|.float .f64 ct.1,.sc<|.float .f64 f.1,.sc<|.float .f64 bq.1,.ro 83 cu.1]:ap)&&(eqQ (aB [.ro 3 bv.2.1,.ro 4 q.1,.ro 4 q.2.1,.ro 68 ak.1,.sc<|.string bk.1,.sc<|.string cc.1,.sc<|.int .i64 cc.2.1,.ro 130 a.1,.ro 134 a.2.1,.ro 142 ae.1,.ro 144 aq.1,.ro 3 bl.1,.ro 66 cd.1,.sc<|.int .i64 cd.2.1,.sc<|.int .i64 j.1,.sc<|.int .i64 bc.1,.ro 88 bm.1,.ro 90 ce.1]:ap) (aB [.ro 3 o.1,.ro 4 af.1,.ro 4 am.1,.ro 68 bg.1,.sc<|.string cv.1,.sc<|.string b.1,.sc<|.int .i64 dr.1,.ro 130 u.1,.ro 134 ag.1,.ro 142 an.1,.ro 144 bh.1,.ro 3 cx.1,.ro 66 e.1,.sc<|.int .i64 aw.1,.sc<|.int .i64 bi.1,.sc<|.int .i64 cy.1,.ro 88 l.1,.ro 90 br.1]:ap)&&true)) ((KY dh.1 dh.2.1 dh.2.2.1 dh.2.2.2.1 du.1 du.2.1 au.1 cg.1 di.1 di.2.1 di.2.2.1 di.2.2.2.1).bind λy4=>aK (cond (y3.1.2.2.1==8) ((MC dc.1 aa.1 ao.1 bj.1 dg.1 h.1 bb.1 bv.1 dt.1 dt.2.1 be.1 ch.1 dj.1 dj.2.1 dj.2.2.1 m.1 dv.1 dv.2.1 dv.2.2.1 ah.1 ah.2.1 bt.1 dm.1 dm.2.1 dm.2.2.1 dm.2.2.2.1 1048576).bind λy5=>aB (((),(),[aF<|aE [99,114,97,115,104]],()),(y5.2.1,d)))<|aB (((),(),y4.1.1,()),(dt,d))) λy6=>letI cj:=y6.2.2.1;letI r:=cj.2.2;letI al:=r.2.2;letI bn:=al.2;letI ck:=bn.2;letI c:=ck.2.2.2.2.2.2.2.2.2.2.2.2.2.2.2.2.2.2.2.2;letI dq:=y6.2.1;letI ad:=dq.2.2;letI ar:=ad.2;letI bo:=ar.2;letI cl:=bo.2;letI g:=cl.2.2;letI bd:=c.2;letI bp:=bd.2;letI cn:=bp.2;letI k:=cn.2.2;letI bu:=g.2;letI cm:=bu.2;letI n:=cm.2.2;letI co:=k.2;letI ab:=co.2.2;letI ai:=n.2.2;letI az:=ab.2;letI ba:=ai.2;letI bw:=az.2;letI bx:=ba.2;letI dp:=bx.2;letI dw:=bw.2.1;cond (decide<|0<(y6.1.2.2.1.length:Int)) ((HG y6.1.2.2.1<|aF<|aE [59,32]).bind λy7=>let z0:List<|Line:=[Line.mk bw.1 y7.1.1];cond ((dw.length+z0.length).ble 2147483648) (aB ((),((cj.1,cj.2.1,r.1,r.2.1,al.1,bn.1,ck.1,ck.2.1,dq.1,dq.2.1,ad.1,ar.1,bo.1,cl.1,cl.2.1,g.1,bu.1,cm.1,cm.2.1,n.1,n.2.1,ai.1,ba.1,bx.1,dp.1,dp.2.1,c.1,bd.1,bp.1,cn.1,cn.2.1,k.1,co.1,co.2.1,ab.1,az.1,bw.1,dw++z0,()),()))) none)<|aB ((),((cj.1,cj.2.1,r.1,r.2.1,al.1,bn.1,ck.1,ck.2.1,dq.1,dq.2.1,ad.1,ar.1,bo.1,cl.1,cl.2.1,g.1,bu.1,cm.1,cm.2.1,n.1,n.2.1,ai.1,ba.1,bx.1,dp.1,dp.2.1,c.1,bd.1,bp.1,cn.1,cn.2.1,k.1,co.1,co.2.1,ab.1,az.1,bw.1,dw,()),()))) none
def Bz4(x:I316.T G):Bn9 (cfQ [(36,Q315.e),(35,Q310.e),(37,Q312.e),(38,Q313.e),(39,Q314.e)]) 22 [3,7] 10 (pl []) (jl [(8,nu [(0,C 65536),(7,C 112),(10,i 0 9)] [(112,Bey),(65536,Bnq)]),(2097154,nu [(0,C 65536),(1,D),(2,B),(6,C 96)] [(96,c'5),(65536,Bex)])]) 79 (Bf f17) I316 Bdn x=(fe (G:=G) f17 I316 Bdn Bdp).F x:=κ
def Caq:Bdp=AN:=by
 iterate 40 (apply funext;intro _)
 unfold Bdp AN;refine Aoz λy1 _=>Aoz λy2 h2=>Aoz λy3 _=>Bqi ?_ ?_
 all_goals
  obtain⟨r,hp⟩:=Bkl _ _ _ _ _ _ _ _ _ _ _ _ _ _ _ _ _ _ _ _ _ _ _ _ _ _ _ _ _ _ _ _ _ _ _ _ _ _ _ y2 h2;simp only[hp]
def Bn3:Fe G:=fe f17 I316 Bdn AN
def Bzs:K 17 Bn3:=fkY cx (tc Q315.k<|tc Q310.k<|tc Q312.k<|tc Q313.k<|tc Q314.k tn) (jl [(8,nu [(0,C 65536),(7,C 112),(10,i 0 9)] [(112,Bey),(65536,Bnq)]),(2097154,nu [(0,C 65536),(1,D),(2,B),(6,C 96)] [(96,c'5),(65536,Bex)])]) 22 [3,7] 10 func17 λx=>(Bz4 x).trans (by rw[Caq];rfl)
def Bxf:KP:=⟨17,Bn3,Bzs⟩
def Bxg:=fk0 func18 (z [(0,C 65536),(1,N [A,A,A,A,A])] [(65536,Awk)]) (nu [] [(65536,Awk)]) Dm [Xr,VY]
def Ay9:Sp:=z [(1,Y 56),(4,C 64),(8,C 608),(50,Y 83),(51,B),(52,B)] [(64,NZ),(608,Bnr)]
def Azw:SL:=[xh 1 [(1,Y 56),(4,C 64),(8,C 608)] [(64,NZ),(608,Bnr)]]
def Aza:Sp:=z [(4,C 64),(8,C 608),(70,Y 56),(71,B),(72,B)] [(64,NZ),(608,Awl)]
def Azx:SL:=[xh 3 [(4,C 64),(8,C 608)] [(64,NZ),(608,Awl)]]
def Azb:Sp:=z [(4,C 64),(8,C 608),(70,Y 56),(71,B),(72,B),(84,B),(85,B)] [(64,NZ),(608,Awl)]
def Azy:SL:=[xh 6 [(4,C 64),(8,C 608),(70,Y 56),(71,B),(72,B)] [(64,NZ),(608,Awl)]]
def t318:List KP:=[Q25,Q26,Q78,Bxf,Bxg]
def Avp:LP:=pl [aC Ay9 Azw ME,aC Aza Azx HH,aC Azb Azy HI]
def Bbq:LK f6 Avp 2:=lk0 t318 (V []) 3 Azb Azy HI
def Bo0:LK f6 Avp 1:=lk0 t318 (V []) 2 Aza Azx HH (hin:=(aa<|AM Bbq CC))
def Boz:LK f6 Avp 0:=lk0 t318 (V []) 1 Ay9 Azw ME
def Q318:=fk1 func6 (O [N c'2,Y 56]) (rh [(4,C 64),(5,i 0 92),(6,B)] [(64,Bey)]) GI t318 (V []) Avp<|aa<|AM Boz<|AM Bo0<|AM Bbq CC
def Azc:Sp:=z [(2,C 32),(3,C 48),(5,B)] [(32,c'5),(48,c'5)]
def Azz:SL:=[xh 0 [(2,C 32),(3,C 48)] [(32,c'5),(48,c'5)],rx [(4,D)]]
def Azd:Sp:=z [(2,C 32),(3,C 48),(6,B)] [(32,c'5),(48,c'5)]
def Az0:SL:=[xh 2 [(2,C 32),(3,C 48)] [(32,c'5),(48,c'5)],rx [(4,D)]]
def Aze:Sp:=z [(2,C 32),(3,C 48),(7,B)] [(32,c'5),(48,c'5)]
def Az1:SL:=[xh 4 [(2,C 32),(3,C 48)] [(32,c'5),(48,c'5)],rx [(4,D)]]
def Azf:Sp:=z [(2,C 32),(3,C 48),(8,B)] [(32,c'5),(48,c'5)]
def Az2:SL:=[xt 6 [],rx [(4,D)]]
def Aob:LP:=pl [aC Azc Azz OQ,aC Azd Az0 OR,aC Aze Az1 OS,aC Azf Az2 OT]
def Bo4:LK f42 Aob 3:=lk0 [] (V []) 4 Azf Az2 OT
def Bo3:LK f42 Aob 2:=lk0 [] (V []) 3 Aze Az1 OS
def Bo2:LK f42 Aob 1:=lk0 [] (V []) 2 Azd Az0 OR
def Bo1:LK f42 Aob 0:=lk0 [] (V []) 1 Azc Azz OQ
def Bxh:=fk1 func42 (O [N c'5,N c'5]) (Z [(4,D)]) SB [] (V []) Aob<|aa<|AM Bo1<|AM Bo2<|AM Bo3<|AM Bo4 CC
def Bxi:=fkl func43 (O [Y 66,Y 66]) (Z [(4,D)]) Lw [] (V []) (sp [(0,Y 66),(1,Y 66),(5,B)]) [xt 0 [],rx [(4,D)]] MS
def Bxj:=fkl func44 (O [Y 3,Y 3]) (Z [(4,D)]) Mx [] (V []) (sp [(0,Y 3),(1,Y 3),(5,B)]) [xt 0 [],rx [(4,D)]] NT
def Bxk:=fkl func45 (O [N Oa,N Oa]) (Z [(4,D)]) SC [] (V []) (z [(2,C 32),(3,C 48),(5,B)] [(32,Oa),(48,Oa)]) [xt 0 [],rx [(4,D)]] TH
def Azg:Sp:=z [(2,C 32),(3,C 48),(5,B)] [(32,HX),(48,HX)]
def Az3:SL:=[xh 0 [(2,C 32),(3,C 48)] [(32,HX),(48,HX)],rx [(4,D)]]
def Azh:Sp:=z [(2,C 32),(3,C 48),(6,B)] [(32,HX),(48,HX)]
def Az4:SL:=[xh 2 [(2,C 32),(3,C 48)] [(32,HX),(48,HX)],rx [(4,D)]]
def Azi:Sp:=z [(2,C 32),(3,C 48),(7,B)] [(32,HX),(48,HX)]
def Az5:SL:=[xh 4 [(2,C 32),(3,C 48)] [(32,HX),(48,HX)],rx [(4,D)]]
def Azj:Sp:=z [(2,C 32),(3,C 48),(8,B)] [(32,HX),(48,HX)]
def Az6:SL:=[xt 6 [],rx [(4,D)]]
def t323:List KP:=[Bxh,Bxi,Bxj,Bxk]
def Aoc:LP:=pl [aC Azg Az3 OU,aC Azh Az4 OV,aC Azi Az5 OW,aC Azj Az6 OX]
def Bo8:LK f19 Aoc 3:=lk0 t323 (V []) 4 Azj Az6 OX
def Bo7:LK f19 Aoc 2:=lk0 t323 (V []) 3 Azi Az5 OW
def Bo6:LK f19 Aoc 1:=lk0 t323 (V []) 2 Azh Az4 OV
def Bo5:LK f19 Aoc 0:=lk0 t323 (V []) 1 Azg Az3 OU
def Bxl:=fk1 func19 (O [N HX,N HX]) (Z [(4,D)]) SD t323 (V []) Aoc<|aa<|AM Bo5<|AM Bo6<|AM Bo7<|AM Bo8 CC
def Azk:Sp:=z [(2,C 32),(3,C 48),(5,B)] [(32,Lj),(48,Lj)]
def Az7:SL:=[xh 0 [(2,C 32),(3,C 48)] [(32,Lj),(48,Lj)],rx [(4,D)]]
def Azl:Sp:=z [(2,C 32),(3,C 48),(6,B)] [(32,Lj),(48,Lj)]
def Az8:SL:=[xt 2 [],rx [(4,D)]]
def t324:List KP:=[Bxl]
def Bdw:LP:=pl [aC Azk Az7 OY,aC Azl Az8 OZ]
def Bpa:LK f7 Bdw 1:=lk0 t324 (V []) 2 Azl Az8 OZ
def Bo9:LK f7 Bdw 0:=lk0 t324 (V []) 1 Azk Az7 OY
def Q324:=fk1 func7 (O [N Lj,N Lj]) (Z [(4,D)]) SE t324 (V []) Bdw<|aa<|AM Bo9<|AM Bpa CC
def Q325:=fkl func8 (O [Y 92,Y 92]) (Z [(4,D)]) Kv [] (V []) (sp [(0,Y 92),(1,Y 92),(5,B)]) [xt 0 [],rx [(4,D)]] TI
def Bms:=hq func46 (sp [(0,os),(1,os)]) (Z [(4,i 0 9)]) OJ (e:=Ayg G 4 9 Ayf)<|Bqj aD ⟨_,Tryz.func46,κ,κ⟩ (t:=9) (F:=Ayf) (ofS:=λs=>s) κ (λ_=>rfl) (λ_ _ _ h=>Bg1 h) Tryz.lays146 κ rfl rfl
def Bxm:=hq func76 (sp [(0,os),(1,os)]) (Z [(4,os),(5,os),(6,D)]) YV (e:=Bia G 4 5 6)<|Bse ⟨_,Tryz.func76,κ,κ⟩ τ τ τ (λw s q h h1=>Bjp Tryz.lays145 w s q h h1)
def Bxn:=hq func77 (sp [(0,i 0 9),(1,.one<|.clo 78 [] [])]) (Z [(4,i 0 9)]) GJ (e:=Bic G 4 9 78 Be4)<|Bsg aD ⟨_,Tryz.func77,κ,κ⟩ (t:=9) (ofS:=λs=>s) κ (λ_=>rfl) (by intro h;cases h) (λ_=>rfl) (toS:=λs=>s) (λ_=>rfl) (λ_ _ h=>Be5 h) (λw b c l _ ho hl=>Bjs Tryz.laysSlH10_f77 Tryz.zeroValue9 (enters_of Tryz.func78 κ rfl) Atr w b c l ho hl)
def Bxo:=fk0 func47 (O [os]) (Z [(2,i 0 9)]) Wy [Bxm,Bms,Bxn]
def Q330:=fkl func79 (O []) (Z [(0,i 0 200)]) EP [] (V []) (sp [(1,i 0 200),(21,i 1 9),(22,B),(23,B)]) [xt 0 [(1,i 0 200)]] TM
def Q331:=hq func82 (sp [(0,os)]) (Z [(2,i 0 9)]) Ky (e:=Axd G 2 9 Axc)<|Bod aD ⟨_,Tryz.func82,κ,κ⟩ (t:=9) (F:=Axc) (ofS:=λs=>s) κ (λ_=>rfl) (λ_ _ h=>Bfi h) Tryz.lays157 κ κ (tt:=251) (x:=()) κ κ κ rfl rfl
def Q332:=fk0 func83 (z [(0,C 65536),(1,os)] [(65536,[A,A,A,A,A])]) [ry [(4,.one .nilp)] [(65536,[A,A,A,A,A])],ry [(4,.one<|.ptr 65536 1)] [(65536,[A,A,A,A,A])],ry [(4,.one<|.ptr 65536 3)] [(65536,[A,A,A,A,A])],ry [(4,.one<|.ptr 65536 4)] [(65536,[A,A,A,A,A])]] MB []
def Bxp:=fkl func124 (O [os]) (Z [(2,B),(3,D)]) UW [] (V [(1,jn [(0,os),(23,D)])]) (sp [(0,os),(4,B),(25,B),(26,B)]) [xt 0 [(4,B)],rx [(2,B),(3,D)]] Sl
def Q334:=fkl func80 (O [N Bns,Y 9]) (rh [(4,C 64),(5,D)] [(64,[A,A,A,A,A])]) LU [Q331,Q332,Bxp] (V []) (z [(1,Y 9),(4,C 64),(6,C 96),(24,i 0 9),(25,B),(26,B)] [(64,[A,A,A,A,A]),(96,[A,A,A,A,A])]) [xh 0 [(4,C 64),(6,C 96)] [(64,[A,A,A,A,A]),(96,[A,A,A,A,A])],yh [(4,C 64),(5,D)] [(64,[A,A,A,A,A])]] Pb
def I335:Sp:=O [N c'2,Y 9]
def Bk4:SL:=rh [(4,C 64),(5,B)] [(64,[A,A,A,A,A])]
def S335_0:Sp:=z [(1,Y 9),(2,C 32),(4,C 64),(10,i 0 200),(11,B),(12,B)] [(32,c'2),(64,[A,A,A,A,A])]
def Aop:SL:=[xh 0 [(4,C 64)] [(64,[A,A,A,A,A])],yh [(4,C 64),(5,B)] [(64,[A,A,A,A,A])]]
def Avq:LP:=pl [aC S335_0 Aop KD]
def t335:KS [(79,Q330.e),(80,Q334.e),(29,Q21.e)]:=(tc Q330.k<|tc Q334.k<|tc Q21.k tn)
def Bja(p0:(Unit×Unit)->Option (NC×Unit))(l:List ByteArray)(s10:List script_form)(s11 s12 p1 p2 p3 p4:Int)(p5 p6 p7:Nat)(p8:List Car)(p9 p10 p11 p12 p13:Int):Option<|Sum (Bhr×(T'0×HW×Unit))<|((Unit×Unit)×(HW×Unit))⊕((Unit×Int×Unit)×(HW×Unit)):=letI a:=(0:Int);letI b:=((p9,p10,p11,p12,p13,()),());cond (decide<|s12<s11) (cond (inB s12 s10.length) (let z0:script_form:=s10.getD s12.toNat<|script_form.mk (aF<|aE []) a a a a a;(LU z0.words z0.event_Kind z0.event_Floor z0.event_Dir z0.event_Car z0.event_N l).bind λy1=>letI c:=y1.2.1;letI d:=c.2;cond y1.1.2.1 ((HF p1 p2 p3 p4 p5 p6 p7 p8 c.1 d.1 d.2.1 d.2.2.1 d.2.2.2.1).bind λy2=>cond (! y2.1.1) (aB<|aI<|aI (((),(2:Int),()),((a,a,a,a,a,()),())))<|aB<|aI<|aI (((),a,()),(c,())))<|aB<|aJ ((l,(),(),s10,s11,aH.wrap<|s12+1,()),((p1,p2,p3,p4,p5,p6,p7,p8,()),b))) none)<|aB<|aI<|aJ (((),()),b)
def Bog(h_script_forms:(Unit×Unit)->Option (NC×Unit))(x:S335_0.T G):Afc (cfQ [(79,aG (G:=G) Q330.e.I Q330.e.E h_script_forms Q330.e.rs),(80,Q334.e),(29,Q21.e)]) Avq (V []) 31 1 (Px (Bf f48) 0) S335_0 Aop x=(letI a:=x.2.1.2.2;letI b:=x.2.2.1;letI c:=a.2.2;Bja h_script_forms x.1.1 x.1.2.2.2.1 x.1.2.2.2.2.1 x.1.2.2.2.2.2.1 x.2.1.1 x.2.1.2.1 a.1 a.2.1 c.1 c.2.1 c.2.2.1 c.2.2.2.1 b.1 b.2.1 b.2.2.1 b.2.2.2.1 b.2.2.2.2.1):=κ
def Bpb:LK f48 Avq 0:=lk cx t335 (V []) 1 S335_0 Aop (rfl:KD=_) κ (an0 κ) λx=>(Bog (λ_=>EP) x).trans κ
def Bti(p0:(Unit×Unit)->Option (NC×Unit))(p1 p2 p3 p4:Int)(p5 p6 p7:Nat)(p8:List Car)(l:List ByteArray):Option<|(Unit×Int×Unit)×(HW×Unit):=letI a:=(0:Int);letI b:=((a,a,a,a,a,()),());(p0 ((),())).bind λy1=>(KD ((l,(),(),y1.1.1,(y1.1.1.length:Int),a,()),((p1,p2,p3,p4,p5,p6,p7,p8,()),b))).bind λy2=>match y2 with|.inl y3=>aB (((),(300:Int),()),b)|.inr y3=>aB (((),y3.1.2.1,()),(y3.2.1,()))
def Bz5(p0:(Unit×Unit)->Option (NC×Unit))(x:I335.T G):Uj (cfQ [(79,aG (G:=G) Q330.e.I Q330.e.E p0 Q330.e.rs),(80,Q334.e),(29,Q21.e)]) Avq (V []) 31 (Bf f48) I335 Bk4 x=Bti p0 x.1.1.1 x.1.1.2.1 x.1.1.2.2.1 x.1.1.2.2.2.1 x.1.1.2.2.2.2.1 x.1.1.2.2.2.2.2.1 x.1.1.2.2.2.2.2.2.1 x.1.1.2.2.2.2.2.2.2.1 x.1.2.1:=κ
def Bn4:Fe G:=fe f48 I335 Bk4 Wx
def Bzt:K 48 Bn4:=fk cx t335 (V []) (lp:=Avq) func48 κ κ rfl (aa<|AM Bpb CC) λx=>(Bz5 (λ_=>EP) x).trans κ
def Bxq:KP:=⟨48,Bn4,Bzt⟩
def Q336:=fkl func20 (O [N c'2,os]) (Z [(4,i 0 56),(5,B),(6,B)]) My [Q17,Bms,Bxo,Bxq] (V []) (z [(2,C 32),(7,i 0 56),(22,i 1 9),(23,B),(24,B)] [(32,c'2)]) [xt 1 [(7,i 0 56)],rx [(4,i 0 56),(5,B),(6,B)]] TJ
def I337:Sp:=O [N [A,A,A,A,A]]
def Bk5:SL:=Z [(2,os)]
def S337_0:Sp:=z [(1,C 16),(9,i 0 200),(10,B),(11,B)] [(16,[A,A,A,A,A])]
def Aoq:SL:=[xt 0 [],rx [(2,os)]]
def S337_1:Sp:=z [(1,C 16),(5,i 0 9),(45,.one<|.sh 32768),(46,B),(47,B)] [(16,[A,A,A,A,A])]
def Aor:SL:=[xt 2 [(5,i 0 9)]]
def Aip:=V [(4,jh [(1,C 16),(4,C 64),(9,i 0 200),(10,B),(11,B),(41,D)] [(16,[A,A,A,A,A]),(64,Bns)])]
def Aiq:LP:=pl [aC S337_0 Aoq LE,aC S337_1 Aor LG]
def t337:KS [(79,Q330.e),(82,Q331.e),(83,Q332.e),(71,Q311.e),(39,Q314.e)]:=(tc Q330.k<|tc Q331.k<|tc Q332.k<|tc Q311.k<|tc Q314.k tn)
def Bjc(p0:(Unit×Unit)->Option (NC×Unit))(l:List ByteArray)(s46 s47 p1 p2 p3 p4 e_N:Int):Option<|Sum (Bht×(HW×Unit))<|(List ByteArray×Unit)×Unit:=letI a:=((),s46,aH.wrap<|s47+1,());letI b:=inB s47 l.length;letI c:=s47.toNat;cond (decide<|s47<s46) (cond b ((MB (l.getD c<|aF<|aE []) p1 p2 p3 p4 e_N).bind λy1=>match y1 with|.inl y2=>aB (aJ (((),l,a),(y2.2.1,())))|.inr y2=>(match y2 with|.inl y3=>(BL y3.2.1.2.1).bind λy4=>cond b (aB<|aJ (((),l.set c y4.1.1,a),(y3.2.1,()))) none|.inr y3=>(match y3 with|.inl y5=>(BL y5.2.1.2.2.2.1).bind λy6=>cond b (aB<|aJ (((),l.set c y6.1.1,a),(y5.2.1,()))) none|.inr y5=>(BL y5.2.1.2.2.2.2.1).bind λy7=>cond b (aB<|aJ (((),l.set c y7.1.1,a),(y5.2.1,()))) none))) none)<|aB<|aI ((l,()),())
def Boi(h_script_forms:(Unit×Unit)->Option (NC×Unit))(x:S337_1.T G):Afc (cfQ [(79,aG (G:=G) Q330.e.I Q330.e.E h_script_forms Q330.e.rs),(82,Q331.e),(83,Q332.e),(71,Q311.e),(39,Q314.e)]) Aiq Aip 68 2 (Px (Bf f50) 1) S337_1 Aor x=(letI a:=x.2.1.2;Bjc h_script_forms x.1.2.1 x.1.2.2.2.1 x.1.2.2.2.2.1 x.2.1.1 a.1 a.2.1 a.2.2.1 a.2.2.2.1):=κ
def Bbr:LK f50 Aiq 1:=lk cx t337 Aip 2 S337_1 Aor (rfl:LG=_) κ (an0 κ) λx=>(Boi (λ_=>EP) x).trans κ
def Bjb(p0:(Unit×Unit)->Option (NC×Unit))(s9:List script_form)(s10 s11 p1 p2 p3 p4 e_N:Int):Option<|Sum (Bhs×(HW×Unit))<|(Unit×Unit)⊕((ByteArray×Unit)×Unit):=letI b:=(0:Int);letI d:=aF<|aE [10];cond (decide<|s11<s10) (cond (inB s11 s9.length) (let z0:script_form:=s9.getD s11.toNat<|script_form.mk (aF<|aE []) b b b b b;letI a:=((p1,p2,p3,p4,e_N,()),(z0.words,z0.event_Kind,z0.event_Floor,z0.event_Dir,z0.event_Car,z0.event_N,()),());letI c:=(((),(),s9,s10,s11,true,()),a);aK (cond (z0.event_Kind !=p1) (aB c)<|cond (z0.event_Dir !=p3) (aB c)<|cond (p1==6) (aB (((),(),s9,s10,s11,z0.event_N !=e_N,()),a))<|aB (((),(),s9,s10,s11,false,()),a)) λy1=>letI e:=y1.1.2.2;cond e.2.2.2.1 (aB<|aJ (((),e.1,e.2.1,aH.wrap<|e.2.2.1+1,()),(y1.2.1,()))) ((Ky y1.2.2.1.1).bind λy2=>(LG (((),y2.1.1,(),(y2.1.1.length:Int),b,()),(y1.2.1,()))).bind λy3=>(HG y3.1.1<|aF<|aE [32]).bind λy4=>cond ((y4.1.1.size+d.size).ble 4611686018427387904) (aB<|aI<|aI ((y4.1.1++d,()),())) none)) none)<|aB<|aI<|aJ ((),())
def Boh(h_script_forms:(Unit×Unit)->Option (NC×Unit))(x:S337_0.T G):Afc (cfQ [(79,aG (G:=G) Q330.e.I Q330.e.E h_script_forms Q330.e.rs),(82,Q331.e),(83,Q332.e),(71,Q311.e),(39,Q314.e)]) Aiq Aip 68 1 (Px (Bf f50) 0) S337_0 Aoq x=(letI a:=x.2.1.2;Bjb h_script_forms x.1.2.1 x.1.2.2.1 x.1.2.2.2.1 x.2.1.1 a.1 a.2.1 a.2.2.1 a.2.2.2.1):=κ
def Bpc:LK f50 Aiq 0:=lk cx t337 Aip 1 S337_0 Aoq (rfl:LE=_) κ (aa<|AM Bbr CC) λx=>(Boh (λ_=>EP) x).trans κ
def Btj(p0:(Unit×Unit)->Option (NC×Unit))(p1 p2 p3 p4 e_N:Int):Option<|(ByteArray×Unit)×Unit:=(p0 ((),())).bind λy1=>(LE (((),y1.1.1,(y1.1.1.length:Int),(0:Int),()),((p1,p2,p3,p4,e_N,()),()))).bind λy2=>match y2 with|.inl y3=>aB ((aF<|aE [],()),())|.inr y3=>aB ((y3.1.1,()),())
def Bz6(p0:(Unit×Unit)->Option (NC×Unit))(x:I337.T G):Uj (cfQ [(79,aG (G:=G) Q330.e.I Q330.e.E p0 Q330.e.rs),(82,Q331.e),(83,Q332.e),(71,Q311.e),(39,Q314.e)]) Aiq Aip 68 (Bf f50) I337 Bk5 x=Btj p0 x.1.1.1 x.1.1.2.1 x.1.1.2.2.1 x.1.1.2.2.2.1 x.1.1.2.2.2.2.1:=κ
def Bn5:Fe G:=fe f50 I337 Bk5 YU
def Bzu:K 50 Bn5:=fk cx t337 Aip (lp:=Aiq) func50 κ κ rfl (aa<|AM Bpc<|AM Bbr CC) λx=>(Bz6 (λ_=>EP) x).trans κ
def Bxr:KP:=⟨50,Bn5,Bzu⟩
def Q338:=fkl func21 (O [N c'2,Y 56]) (Z [(4,os),(5,B)]) OI [Q25,Bxr,Q52,Q57] (V []) (z [(6,C 96),(13,Y 56),(14,B),(15,B)] [(96,[.np 96 151,H 0 5])]) [xh 0 [(6,C 96)] [(96,[.np 96 151,H 0 5])]] Sj
def I339:Sp:=O []
def Bk6:SL:=Z [(0,D)]
def Btk(p0:(Ph×Unit)->Option ((Unit×Unit)×(T'0×Unit)))(p1:((T'0×ByteArray×Unit)×Unit)->Option (Aoh×Unit))(p2:(Ang×Unit)->Option ((ByteArray×Int×Unit)×Unit))(p3:(Ang×Unit)->Option (Avt×(Fz×Unit)))(p4:((List Event×Unit)×Unit)->Option ((Int×Unit)×Unit)) :Option<|(Bool×Unit)×Unit:=letI a:=32;letI b:=((false,()),());letI c:=(0:Int);letI d:=10;letI e:=112;letI f:=101;letI g:=115;letI h:=116;letI j:=97;letI k:=114;letI l:=117;letI m:=119;letI n:=105;letI q:=49;(p0 ((((2:Int),c,c,()),()),())).bind λy1=>(p1 ((y1.2.1,aF<|aE [e,k,f,g,g,a,q,a,l,e,a,35,a,110,111,h,f,d,d,a,a,m,j,n,h,a,50,48,d],()),())).bind λy2=>letI o:=((y1.2.1,y2.1.1,()),());(p2 o).bind λy3=>(p3 o).bind λy4=>letI r:=y4.1.2.1.length;(p1 ((y1.2.1,aF<|aE [98,j,100,d,m,j,n,h,a,120],()),())).bind λy5=>aK (cond (y2.1.2.2.1==c) (cond ((y2.1.1.length:Int)==2) (cond (y3.1.2.1==c) (cond (eqB y3.1.1<|aF<|aE [e,k,f,g,g,a,q,a,l,e,d,m,j,n,h,a,50,48,d]) (cond (y4.1.2.2.1==c) (cond (((r:Nat):Int)==1) (cond (inB c r) (cond (eqB (y4.1.2.1.getD c.toNat<|Line.mk c<|aF<|aE []).J6<|aF<|aE [g,f,k,118,f,100,a,q,a,l,e]) (cond (y5.1.2.2.1==300) (cond (y5.1.2.1==2) ((p4 ((y2.1.1,()),())).bind λy6=>aB ((y6.1.1==20,()),()))<|aB b)<|aB b)<|aB b) none)<|aB b)<|aB b)<|aB b)<|aB b)<|aB b)<|aB b) λy7=>aB ((y7.1.1,()),())
def Bz7(p0:(Ph×Unit)->Option ((Unit×Unit)×(T'0×Unit)))(p1:((T'0×ByteArray×Unit)×Unit)->Option (Aoh×Unit))(p2:(Ang×Unit)->Option ((ByteArray×Int×Unit)×Unit))(p3:(Ang×Unit)->Option (Avt×(Fz×Unit)))(p4:((List Event×Unit)×Unit)->Option ((Int×Unit)×Unit))(x:I339.T G):Uj (cfQ [(4,aG (G:=G) Q9.e.I Q9.e.E p0 Q9.e.rs),(20,aG (G:=G) Q336.e.I Q336.e.E p1 Q336.e.rs),(21,aG (G:=G) Q338.e.I Q338.e.E p2 Q338.e.rs),(6,aG (G:=G) Q318.e.I Q318.e.E p3 Q318.e.rs),(15,aG (G:=G) Q26.e.I Q26.e.E p4 Q26.e.rs)]) (pl []) (V [(6,jn [(0,D)])]) 84 (Bf f9) I339 Bk6 x=Btk p0 p1 p2 p3 p4:=κ
def e339:Fe G:=fe f9 I339 Bk6 OD
def Bzv:K 9 e339:=fk cx (tc Q9.k<|tc Q336.k<|tc Q338.k<|tc Q318.k<|tc Q26.k tn) (V [(6,jn [(0,D)])]) (lp:=(pl [])) func9 κ κ rfl (an0 κ) λx=>(Bz7 (λx=>HB x.1.1.1 x.1.1.2.1 x.1.1.2.2.1) (λx=>letI a:=x.1.1.2.2;letI b:=a.2.2;My x.1.1.1 x.1.1.2.1 a.1 a.2.1 b.1 b.2.1 b.2.2.1 b.2.2.2.1 x.1.2.1) (λx=>letI a:=x.1.1.2.2;letI b:=a.2.2;OI x.1.1.1 x.1.1.2.1 a.1 a.2.1 b.1 b.2.1 b.2.2.1 b.2.2.2.1 x.1.2.1) (λx=>letI a:=x.1.1.2.2;letI b:=a.2.2;GI x.1.1.1 x.1.1.2.1 a.1 a.2.1 b.1 b.2.1 b.2.2.1 b.2.2.2.1 x.1.2.1) (λx=>JN x.1.1) x).trans κ
def I340:Sp:=O [N [c1,c1,c1],Y 5,N [c1,c1]]
def E340:SL:=Z [(6,D)]
def Btl(p0:(Unit×Unit)->Option ((Bool×Unit)×Unit))(p1 p2 p3:Int)(l:List Int)(p4 p5:Int):Option<|(Bool×Unit)×Unit:=letI o:=(0:Int);letI d:=Event.mk 1 o o o;letI f:=((false,()),());letI n:=List Event;(HB p1 p2 p3).bind λy1=>letI ah:=y1.2.1;letI e:=ah.2.2;letI j:=e.2.2;letI w:=j.2;letI ai:=w.2;letI a:=GI ah.1 ah.2.1 e.1 e.2.1 j.1 w.1 ai.1 ai.2.1;(OC ah.1 ah.2.1 e.1 e.2.1 j.1 w.1 ai.1 ai.2.1 l 80).bind λy2=>letI r:=y2.1.1.length;let z0:Int:=aH.wrap<|1+aH.wrap (Int.tmod p4 30);let z1:Int:=aH.wrap<|1+aH.wrap (Int.tmod p5 30);cond ((([]:n).length+r).ble 2147483648) (let z2:List<|Event:=([]:n)++y2.1.1;let z3:List<|Event:=[d<|IntKind.wrap aH<|z0+z1];cond ((z2.length+z3.length).ble 2147483648) ((a<|z2++z3).bind λy3=>cond ((([]:n).length+r).ble 2147483648) (let z4:List<|Event:=([]:n)++y2.1.1;let z5:List<|Event:=[d z0,d z1];cond ((z4.length+z5.length).ble 2147483648) ((a<|z4++z5).bind λy4=>cond ((([]:n).length+r).ble 2147483648) (let z6:List<|Event:=([]:n)++y2.1.1;let z7:List<|Event:=[d z0];cond ((z6.length+z7.length).ble 2147483648) ((a<|z6++z7).bind λy5=>aK (aB (((),y3.1.2.1,y3.1.2.2.1,(),y4.1.2.1,y4.1.2.2.1,y5.1.2.1,y5.1.2.2.1,()),(y3.2.1,y4.2.1,()))) λy6=>letI m:=y6.2.2.1.2.2;letI ad:=m.2;letI af:=ad.2;letI b:=af.2.2.2;letI q:=y6.2.1.2.2;letI ab:=q.2;letI ae:=ab.2;letI c:=ae.2.2.2;letI ak:=c.2;letI g:=ak.2.2.2;letI am:=b.2;letI h:=am.2.2.2;letI aa:=y6.1.2;letI k:=aa.2.2.2;letI aj:=k.2;letI s:=(aj.2.1.length:Int);letI u:=g.2.2;letI v:=h.2.2;letI ag:=aa.1;letI al:=u.2;letI an:=v.2;letI ao:=ag.length;aK (cond (aa.2.1==o) (cond (aj.1==o) (cond (aj.2.2.1==o) ((SE y6.2.1.1 y6.2.1.2.1 q.1 ab.1 ae.1 ae.2.1 ae.2.2.1 c.1 ak.1 ak.2.1 ak.2.2.1 g.1 g.2.1 u.1 al.1 al.2.1 al.2.2.1 al.2.2.2.1 y6.2.2.1.1 y6.2.2.1.2.1 m.1 ad.1 af.1 af.2.1 af.2.2.1 b.1 am.1 am.2.1 am.2.2.1 h.1 h.2.1 v.1 an.1 an.2.1 an.2.2.1 an.2.2.2.1).bind λy7=>cond y7.1.1 ((Kv ag k.1).bind λy8=>cond y8.1.1 (cond (decide<|s<=((ao:Nat):Int)) (let z8:Int:=s;cond (decide (o<=z8)&&decide (z8<=((ao:Nat):Int))) ((Kv aj.2.1<|(ag.take z8.toNat).drop 0).bind λy9=>cond y9.1.1 ((p0 ((),())).bind λy10=>aB ((y10.1.1,()),()))<|aB f) none)<|aB f)<|aB f)<|aB f)<|aB f)<|aB f)<|aB f) λy11=>aB ((y11.1.1,()),())) none) none) none) none) none) none
def Bz8(p0:(Unit×Unit)->Option ((Bool×Unit)×Unit))(x:I340.T G):Uj (cfQ [(4,Q9.e),(5,Q13.e),(6,Q318.e),(7,Q324.e),(8,Q325.e),(9,aG (G:=G) e339.I e339.E p0 e339.rs)]) (pl []) (V [(7,jn [(6,D)]),(1048583,jh [(11,C 176),(12,Y 92),(13,B),(14,C 224),(15,i 0 92),(16,B),(18,i 1 92),(19,B)] [(176,Bnt),(224,Bnu)])]) 113 (Bf f3) I340 E340 x=Btl p0 x.1.1.1 x.1.1.2.1 x.1.1.2.2.1 x.1.2.1 x.1.2.2.1.1 x.1.2.2.1.2.1:=κ
def e340:Fe G:=fe f3 I340 E340 F_l29_ScriptWaits
def k340:K 3 e340:=fk cx (tc Q9.k<|tc Q13.k<|tc Q318.k<|tc Q324.k<|tc Q325.k<|tc Bzv tn) (V [(7,jn [(6,D)]),(1048583,jh [(11,C 176),(12,Y 92),(13,B),(14,C 224),(15,i 0 92),(16,B),(18,i 1 92),(19,B)] [(176,Bnt),(224,Bnu)])]) (lp:=(pl [])) func3 κ κ rfl (an0 κ) λx=>(Bz8 (λ_=>OD) x).trans κ
end
end Go.Ovl
