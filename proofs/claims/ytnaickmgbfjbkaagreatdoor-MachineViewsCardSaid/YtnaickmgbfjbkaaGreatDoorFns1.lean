import Derived.Test.YtnaickmgbfjbkaaGreatDoorSig
import Derived.Test.YtnaickmgbfjbkaaGreatDoorDefs6
import Derived.Test.YtnaickmgbfjbkaaGreatDoorHandD
set_option linter.all false
open Go.Ab renaming ci->A,oi->B,op->C,c4->D,ob->H,oA->J,ia->N,cb->O,cw->P,js->U,rt->V,oro->W,ow->Y,cr->Z,jh->m,cs->o,sh->z,CSh->aA,lpX->aB
open Option renaming some->aC,bind->aH
open Bool renaming false->aD
open Go.Ovl renaming sigOK->aE,Feedback->aF
open Sum renaming inr->aG
namespace Go.Ovl
open Go Go.Ab Go.Proofs Go.Proofs.Tryz
set_option maxRecDepth 100000
noncomputable section
def c'0:List aA:=[A,A,A,A,cf,cf,cf,P 0 73]
def c'1:List aA:=[A,A,A,A,cf,cf,cf,P 1 73]
def c'2:List aA:=[A,A,A,A,cf,cf,cf,Z 73]
def c'3:List aA:=[A,A,A,A,A,A,A,A,A]
def c'4:List aA:=[P 0 3,P 1 4,P 2 4,P 3 185]
def c'5:List aA:=[Z 3,Z 4,Z 4,Z 185]
def c'6:List aA:=[P 4 3,P 5 4,P 6 4,P 7 185]
def c'7:List aA:=[P 0 3,P 1 4,P 2 4,Z 185]
def c'8:List aA:=[P 3 3,P 4 4,P 5 4,P 6 185]
def c'9:List aA:=[P 1 3,P 2 4,P 3 4,P 4 185]
def Bvb:List aA:=[P 5 3,P 6 4,P 7 4,P 8 185]
def Km:List aA:=[A,A,A,P 0 143,A,O]
def Nr:List aA:=[P 0 3,P 1 4,P 2 4,P 3 185,o,o,A,P 4 110,P 5 115,P 6 126,P 7 131,P 8 3,P 9 55,A,A,A]
def Amz:List aA:=[Z 3,Z 4,Z 4,Z 185,o,o,A,P 10 110,P 11 115,P 12 126,P 13 131,P 14 3,P 15 55,A,A,A]
def Bb3:List aA:=[Z 3,Z 4,Z 4,Z 185,o,o,A,P 0 110,P 1 115,P 2 126,P 3 131,P 4 3,P 5 55,A,A,A]
def Xn:List aA:=[D,D,A,A,Z 53]
def Mh:List aA:=[D,D,A,A,P 0 53]
def Xo:List aA:=[D,D,A,A,P 1 53]
def Ah6:List aA:=[c1,c1,c1,c1,c1,c1]
def Bvc:List aA:=[D,O,O,O,O,A,O,A,O,D,cf]
def Kn:List aA:=[D,O,O,O,O,A,A,A,A,A,A,A,A,A,A,A,A,A,A,A,A,A,A,A,A,A,A,A,A,A,A,A,A,A,A,A,A,A,A,A,A]
def CR:List aA:=[A,A,A,Z 143,A,O]
def Bp:List aA:=[A,A,A,A,A,O,A,A,A,A,D,A,A,O]
def Db:List aA:=[Z 3,Z 4,Z 4,Z 185,o,o,A,Z 110,Z 115,Z 126,Z 131,Z 3,Z 55,A,A,A]
def Dc:List aA:=[A,A,A,A,cf,cf,cf,Z 73,Z 3,Z 4,Z 4,Z 185,o,o,A,P 0 110,P 1 115,P 2 126,P 3 131,Z 3,Z 55,A,A,A,D,D,A,A,P 4 53,O,P 5 55,P 6 3,P 7 3,A,A,D,D,D,D,O,O,A,P 8 100]
def RN:List aA:=[A,A,A,P 1 143,A,O]
def Bb4:List aA:=[O,O,O,O,O,A]
def Bb5:List aA:=[A,A,A,A,cf,cf,cf,Z 73,Z 3,Z 4,Z 4,Z 185,o,o,A,P 1 110,P 2 115,P 3 126,P 4 131,Z 3,Z 55,A,A,A,D,D,A,A,P 5 53,O,P 6 55,P 7 3,P 8 3,A,A,D,D,D,D,O,O,A,P 9 100]
def Bvd:List aA:=[A,A,A,A,cf,cf,cf,Z 73,Z 3,Z 4,Z 4,Z 185,o,o,A,P 3 110,P 4 115,P 5 126,P 6 131,Z 3,Z 55,A,A,A,D,D,A,A,P 7 53,O,P 8 55,P 9 3,P 10 3,A,A,D,D,D,D,O,O,A,P 11 100]
def Bb6:List aA:=[A,A,A,A,cf,cf,cf,Z 73,Z 3,Z 4,Z 4,Z 185,o,o,A,P 2 110,P 3 115,P 4 126,P 5 131,Z 3,Z 55,A,A,A,D,D,A,A,P 6 53,O,P 7 55,P 8 3,P 9 3,A,A,D,D,D,D,O,O,A,P 10 100]
def FQ:List aA:=[O,O,O,O,A,A,A,D,D,D,D,D]
def Ad3:List aA:=[P 0 55,P 1 4,D,D]
def Ats:List aA:=[P 2 55,P 3 4,D,D]
def PW:List aA:=[Z 226,Z 3,Z 4,Z 4,Z 185,Z 3,Z 55,Z 4,D,D,D,D]
def Bjs:List aA:=[P 0 226,Z 3,Z 4,Z 4,Z 185,P 1 3,Z 55,Z 4,D,D,D,D]
def Ah7:List aA:=[P 0 226,P 1 3,P 2 4,P 3 4,P 4 185,P 5 3,P 6 55,P 7 4,D,D,D,D]
def Bjt:List aA:=[P 8 226,Z 3,Z 4,Z 4,Z 185,Z 3,Z 55,Z 4,D,D,D,D]
def Att:List aA:=[P 1 226,P 2 3,P 3 4,P 4 4,P 5 185,P 6 3,P 7 55,P 8 4,D,D,D,D]
def Bve:List aA:=[P 2 226,P 3 3,P 4 4,P 5 4,P 6 185,P 7 3,P 8 55,P 9 4,D,D,D,D]
def Bvf:List aA:=[P 9 226,Z 3,Z 4,Z 4,Z 185,Z 3,Z 55,Z 4,D,D,D,D]
def Bvg:List aA:=[Z 226,Z 3,Z 4,Z 4,Z 185,P 8 3,Z 55,Z 4,D,D,D,D]
def Bb7:List aA:=[A,A,A,A,cf,cf,cf,Z 73,Z 3,Z 4,Z 4,Z 185,o,o,A,P 9 110,P 10 115,P 11 126,P 12 131,Z 3,Z 55,A,A,A,D,D,A,A,P 13 53,O,P 14 55,P 15 3,P 16 3,A,A,D,D,D,D,O,O,A,P 17 100]
def Ad4:List aA:=[A,A,A,P 2 143,A,O]
def Bvh:List aA:=[D,D,O,D,D,O,A,A,O]
def Am0:List aA:=[D,D,D,D,O,O,A,P 10 100]
def Atu:List aA:=[A,A,A,A,cf,cf,cf,Z 73,Z 3,Z 4,Z 4,Z 185,o,o,A,P 11 110,P 12 115,P 13 126,P 14 131,Z 3,Z 55,A,A,A,D,D,A,A,P 15 53,O,P 16 55,P 17 3,P 18 3,A,A,D,D,D,D,O,O,A,P 19 100]
def Atv:List aA:=[Z 3,Z 4,Z 4,Z 185,o,o,A,P 0 110,P 1 115,P 2 126,P 3 131,Z 3,Z 55,A,A,A]
def Atw:List aA:=[D,D,D,D,O,O,A,P 4 100]
def Bvi:List aA:=[Z 3,Z 4,Z 4,Z 185,o,o,A,P 1 110,P 2 115,P 3 126,P 4 131,Z 3,Z 55,A,A,A]
def Bvj:List aA:=[P 5 3,P 6 4,P 7 4,P 8 185,o,o,A,P 9 110,P 10 115,P 11 126,P 12 131,P 13 3,P 14 55,A,A,A]
def Bvk:List aA:=[D,D,D,D,O,O,A,Z 100]
def Bb8:List aA:=[P 1 3,P 2 4,P 3 4,P 4 185,o,o,A,P 5 110,P 6 115,P 7 126,P 8 131,P 9 3,P 10 55,A,A,A]
def Bvl:List aA:=[A,A,A,A,A,A,A,A,A,A,A,A,A,A,A,A,A,A,A,A,A,A,A,A,A,A,A,A,A,A,A,A,A,A,A,A]
def Bju:List aA:=[P 10 3,P 11 4,P 12 4,P 13 185,o,o,A,P 14 110,P 15 115,P 16 126,P 17 131,P 18 3,P 19 55,A,A,A]
def Iy:List aA:=[o,A,A,A,A,cf,cf,cf,Z 73]
def Atx:List aA:=[A,A,A,A,cf,cf,cf,Z 73,Z 3,Z 4,Z 4,Z 185,o,o,A,P 0 110,P 1 115,P 2 126,P 3 131,Z 3,Z 55,A,A,A,D,D,A,A,P 4 53,O,A,A,P 5 4,P 6 55,P 7 4,D,D,D,D,O,O,A,P 8 100]
def BK:List aA:=[A,A,A,A,cf,cf,cf,Z 73,Z 3,Z 4,Z 4,Z 185,o,o,A,P 0 110,P 1 115,P 2 126,P 3 131,Z 3,Z 55,A,A,A,D,D,A,A,Z 53,O,A,A,P 4 4,P 5 55,P 6 4,D,D,D,D,O,O,A,P 7 100]
def FR:List aA:=[A,A,A,A,cf,cf,cf,Z 73,A,A,A,A,A,A,O,A,A,A,A,D,A,A,O,A,O,A,O,A]
def Jt:List aA:=[O,O,O,A,A,A]
def Bb9:List aA:=[.np 65536 402,P 0 5]
def ZN:List aA:=[A,A,A,A,cf,cf,cf,Z 73,Z 3,Z 4,Z 4,Z 185,o,o,A,P 1 110,P 2 115,P 3 126,P 4 131,Z 3,Z 55,A,A,A,D,D,A,A,Z 53,O,A,A,P 5 4,P 6 55,P 7 4,D,D,D,D,O,O,A,P 8 100]
def RO:List aA:=[Z 3,Z 4,Z 4,Z 185,A,O]
def VJ:List aA:=[P 0 226,P 1 3,P 2 4,P 3 4,P 4 185,P 5 3,P 6 55,P 7 4,D,D,D,D,A,A,A,A,cf,cf,cf,Z 73]
def Bvm:List aA:=[P 1 226,P 2 3,P 3 4,P 4 4,P 5 185,P 6 3,P 7 55,P 8 4,D,D,D,D,A,A,A,A,cf,cf,cf,Z 73]
def Ad5:List aA:=[A,A,A,A,cf,cf,cf,Z 73,Z 68]
def Bvn:List aA:=[P 8 226,P 9 3,P 10 4,P 11 4,P 12 185,P 13 3,P 14 55,P 15 4,D,D,D,D,A,A,A,A,cf,cf,cf,Z 73]
def Aty:List aA:=[Z 226,P 0 3,P 1 4,P 2 4,P 3 185,Z 3,Z 55,P 4 4,D,D,D,D]
def Atz:List aA:=[A,A,A,A,cf,cf,cf,Z 73,Z 3,Z 4,Z 4,Z 185,o,o,A,P 5 110,P 6 115,P 7 126,P 8 131,Z 3,Z 55,A,A,A,D,D,A,A,Z 53,O,A,A,P 9 4,P 10 55,P 11 4,D,D,D,D,O,O,A,P 12 100]
def Bjv:List aA:=[Z 226,P 0 3,P 1 4,P 2 4,P 3 185,P 4 3,P 5 55,P 6 4,D,D,D,D]
def Bjw:List aA:=[A,A,A,A,cf,cf,cf,Z 73,Z 3,Z 4,Z 4,Z 185,o,o,A,P 7 110,P 8 115,P 9 126,P 10 131,Z 3,Z 55,A,A,A,D,D,A,A,Z 53,O,A,A,P 11 4,P 12 55,P 13 4,D,D,D,D,O,O,A,P 14 100]
def Ad6:List aA:=[.clo 174 [(65536,0)] [],.clo 175 [(65536,0)] [],.clo 176 [(65536,0)] [],.clo 177 [(65536,0)] [],.clo 178 [(65536,0)] []]
def Bvo:List aA:=[A,A,A,A,cf,cf,cf,Z 73,Z 3,Z 4,Z 4,Z 185,o,o,A,P 11 110,P 12 115,P 13 126,P 14 131,Z 3,Z 55,A,A,A,D,D,A,A,Z 53,O,A,A,P 15 4,P 16 55,P 17 4,D,D,D,D,O,O,A,P 18 100]
def cx:Ctx prog G:=⟨aE,Bvp,Bvr⟩
abbrev K:=Ff prog G
abbrev KS(l:List (Nat×Fe G)):=∀p∈l,Ff prog G p.1 p.2
abbrev LP:=Nat->St G->M (Ex×St G)
abbrev LK(f:Func)(lp:LP)(n:Nat):=LoopOK prog G f.ntmps (lp n) (Pi (Bo f) n)
def aa{Q:Nat->Code->Prop}{n:Nat}{l l':List Code}(h':Hd Q n l')(h:l=l':=by kernel_rfl):Hd Q n l:=Amq l' h h'
structure KP where
 g:Nat
 e:Fe G
 k:K g e
def KL(l:List KP):List (Nat×Fe G):=l.map λp=>(p.g,p.e)
def KLs(l:List KP):KS (KL l):=λp h=>by obtain⟨q,_,rfl⟩:=b2_.1 h;exact q.k
def lk0(l:List KP)(jn:Nat->Option SL){lp:LP}(n:Nat){nt k:Nat}{c:Code}(S:Sp)(E:SL)(L:S.T G->Option (DA G E)){R:S.T G->Option (Sum (S.T G) (DA G E))}(hL:L=Bx R CK:=by rfl)(hP:lp k=aB S E L:=by kernel_rfl)(hin:Hd (λk c=>LoopOK prog G nt (lp k) c) n (AQ c):=by exact an0 κ)(hR:∀x,Aex (cfQ (KL l)) lp jn nt n c S E x=R x:=by intro x;kernel_rfl):LoopOK prog G nt (lp k) c:=lk cx (KLs l) jn n S E hL hP hin hR
def hq{g:Nat}{fn:Func}(_:prog.funcs[g]?=aC fn)(I:Sp)(E:SL)(F:I.F G (Option (DA G E))){e:Fe G}(p:K g e)(he:e=fe fn I E F:=by kernel_rfl):KP:=⟨g,fe fn I E F,he▸p⟩
section
variable{g:Nat}{fn:Func}(hfn:prog.funcs[g]?=aC fn)(I:Sp)(E:SL)(F:I.F G (Option (DA G E)))(l:List KP)(jn:Nat->Option SL)
def fk1 (lp : LP) (hlp : Hd (λk c => LoopOK prog G fn.ntmps (lp k) c) 0 (AQ (Bo fn))) (hc : (!(fn.name == "runtime.NumGoroutine") && Nat.ble I.tm.length fn.ntmps) = true := by kernel_rfl) (p0 : fn.body = aC (Bo fn) := by kernel_rfl) (hF : ∀ x, XB (cfQ (KL l)) lp jn fn.ntmps (Bo fn) I E x = I.ap F x := by intro x; kernel_rfl) : KP := ⟨g, fe fn I E F, fk cx (KLs l) jn hfn hc p0 rfl hlp hF⟩
def fkl (S : Sp) (X : SL) (L : S.T G -> Option (DA G X)) {R : S.T G -> Option (Sum (S.T G) (DA G X))} (hL : L = Bx R CK := by rfl) (ho : AQ (Bo fn) = [Pi (Bo fn) 0] := by kernel_rfl) (hi : AQ (Pi (Bo fn) 0) = [] := by kernel_rfl) (hR : ∀ x, Aex (cfQ (KL l)) (pl [aB S X L]) jn fn.ntmps 1 (Pi (Bo fn) 0) S X x = R x := by intro x; kernel_rfl) (hc : (!(fn.name == "runtime.NumGoroutine") && Nat.ble I.tm.length fn.ntmps) = true := by kernel_rfl) (hbody : fn.body = aC (Bo fn) := by kernel_rfl) (hF : ∀ x, XB (cfQ (KL l)) (pl [aB S X L]) jn fn.ntmps (Bo fn) I E x = I.ap F x := by intro x; kernel_rfl) : KP := fk1 hfn I E F l jn (pl [aB S X L]) (Amq _ ho (Aq (lk cx (KLs l) jn 1 S X hL rfl (an0 hi) hR) AP)) hc hbody hF
def fkj (hlp : Hd (λk c => LoopOK prog G fn.ntmps (pl [] k) c) 0 (AQ (Bo fn)) := by exact an0 κ) (hc : (!(fn.name == "runtime.NumGoroutine") && Nat.ble I.tm.length fn.ntmps) = true := by kernel_rfl) (p0 : fn.body = aC (Bo fn) := by kernel_rfl) (hF : ∀ x, XB (cfQ (KL l)) (pl []) jn fn.ntmps (Bo fn) I E x = I.ap F x := by intro x; kernel_rfl) : KP := fk1 hfn I E F l jn (pl []) hlp hc p0 hF
def fk0 (hlp : Hd (λk c => LoopOK prog G fn.ntmps (pl [] k) c) 0 (AQ (Bo fn)) := by exact an0 κ) (hc : (!(fn.name == "runtime.NumGoroutine") && Nat.ble I.tm.length fn.ntmps) = true := by kernel_rfl) (p0 : fn.body = aC (Bo fn) := by kernel_rfl) (hF : ∀ x, XB (cfQ (KL l)) (pl []) (U []) fn.ntmps (Bo fn) I E x = I.ap F x := by intro x; kernel_rfl) : KP := fk1 hfn I E F l (U []) (pl []) hlp hc p0 hF
end
def Q0:=fkl func73 (N [B,B]) (rh [(4,C 64)] [(64,c'0)]) NS [] (U []) (z [(0,B),(1,B),(4,C 64),(5,C 80),(6,B)] [(64,c'0),(80,c'1)]) [xh 0 [(4,C 64),(5,C 80)] [(64,c'0),(80,c'1)]] LB
def Q1:=fkl func25 (N [o1,o1]) (rh [(4,C 64)] [(64,c'0)]) Lp [Q0] (U []) (z [(1,o1),(4,C 64),(5,C 80),(6,B)] [(64,c'0),(80,c'1)]) [xh 0 [(1,o1),(4,C 64),(5,C 80)] [(64,c'0),(80,c'1)]] Nl
def Q2:=fkl func10 (N [o1,o1]) (rh [(4,C 64)] [(64,c'0)]) Lq [Q1] (U []) (z [(1,o1),(4,C 64),(5,C 80),(6,B)] [(64,c'0),(80,c'1)]) [xh 0 [(4,C 64),(5,C 80)] [(64,c'0),(80,c'1)]] Nm
def Q3:=fkl func4 (N [J [c1,c1,c1]]) (rh [(2,C 32)] [(32,c'0)]) EA [Q2] (U []) (z [(1,C 16),(2,C 32),(3,C 48),(4,B)] [(16,[c1,c1,c1]),(32,c'0),(48,c'1)]) [xh 0 [(2,C 32),(3,C 48)] [(32,c'0),(48,c'1)]] Jm
def Q4:=fkj func99 (N [B,B,B]) (V [(6,H)]) Fz [] (U [(1,jn [(6,H)])])
def Q5:=fkl func100 (N [J c'2,J c'3]) (V [(4,H)]) Qg [Q4] (U [(9,jn [(4,H)])]) (z [(2,C 32),(3,C 48),(5,Y 0 3),(6,B)] [(32,c'2),(48,c'3)]) [xh 0 [(2,C 32),(3,C 48)] [(32,c'2),(48,c'3)],rx [(4,H)]] RB
def Q6:=fkl func49 (N [J c'2]) (V [(2,B)]) AU [Q4,Q5] (U [(5,m [(1,C 16),(3,H)] [(16,c'2)]),(9,m [(1,C 16),(3,H),(4,B)] [(16,c'2)])]) (z [(1,C 16),(3,H),(4,B)] [(16,c'2)]) [xh 0 [(1,C 16),(3,H)] [(16,c'2)]] RA
def Q7:=fkj func51 (N [B,J [o,o,A]]) (V [(4,H)]) FA [] (U [(1,jn [(4,H)])])
def Q8:=fkj func124 (N [J c'2,J [o,o,A],B]) (V [(6,H)]) PG [Q6,Q7] (U [(1,jn [(6,H)])])
def Q9:=fk0 func179 (N [J c'2]) (rh [(2,C 32)] [(32,c'4)]) MF [Q6]
def Q10:=fk0 func181 (N [J [o,o,A]]) (V [(2,os)]) JD []
def Bd6:Sp:=sp [(0,os),(3,B),(4,B)]
def Bey:SL:=[xt 0 [(3,B)]]
def Bd7:Sp:=sp [(0,os),(3,B),(4,B),(5,B)]
def Bez:SL:=[xt 2 [(0,os),(3,B),(4,B)]]
def P11:LP:=pl [aB Bd6 Bey OB,aB Bd7 Bez OC]
def Bfi:LK f295 P11 1:=lk0 [] (U []) 2 Bd7 Bez OC
def Bnp:LK f295 P11 0:=lk0 [] (U []) 1 Bd6 Bey OB (hin:=(aa (Aq Bfi AP)))
def Q11:=fk1 func295 (N [os]) (V [(2,o1)]) NX [] (U []) P11 (aa (Aq Bnp (Aq Bfi AP)))
def Q12:=fkj func103 (N [J c'2,B,B]) (V [(6,H)]) DS [Q6,Q4] (U [(3,jn [(6,H)])])
def Q13:=fkj func296 (N [B,B,B]) (V [(6,H)]) Ni [] (U [(1,jn [(6,H)])])
def Q14:=fkj func243 (N [J c'2,J [A,A,A,A,A]]) (V [(4,H)]) HD [Q6,Q12,Q13] (jm [8,10,12,15,17] (jn [(4,H)]) (U [(4,m [(2,C 32),(3,C 48),(5,H),(6,H)] [(32,c'2),(48,[A,A,A,A,A])])]))
def Q15:=fk0 func242 (N [J c'2,os]) (rh [(4,C 64),(5,B)] [(64,[A,A,A,A,A])]) Zk [Q6,Q11,Q14]
def Q16:=fkl func180 (N [J c'2,os]) (V [(4,Y 0 226),(5,B)]) Xd [Q15] (U []) (z [(1,os),(2,C 32),(6,Y 0 226),(7,B)] [(32,c'2)]) [xt 0 [(6,Y 0 226),(7,B)]] Tz
def Q17:=fkj func166 (N [J [A,A,A,A,O],J [A,A,A,A,O]]) (V [(4,H)]) Oh [] (U [(1,jn [(4,H)])])
def Bd8:Sp:=z [(2,C 32),(3,C 48),(5,B),(6,B)] [(32,c'2),(48,c'5)]
def Be0:SL:=[xh 0 [(2,C 32),(3,C 48),(5,B)] [(32,c'2),(48,c'5)],rx [(4,H)]]
def Bd9:Sp:=z [(2,C 32),(3,C 48),(5,B),(7,B)] [(32,c'2),(48,c'5)]
def Be1:SL:=[xt 2 [],rx [(4,H)]]
def J18:=U [(13,m [(2,C 32),(3,C 48),(5,B),(7,B),(109,H)] [(32,c'2),(48,c'5)])]
def t18:List KP:=[Q6,Q12,Q17]
def P18:LP:=pl [aB Bd8 Be0 Kx,aB Bd9 Be1 Ky]
def Bnr:LK f101 P18 1:=lk0 t18 J18 2 Bd9 Be1 Ky
def Bnq:LK f101 P18 0:=lk0 t18 J18 1 Bd8 Be0 Kx
def Q18:=fk1 func101 (N [J c'2,J c'5]) (V [(4,H)]) Bb t18 J18 P18 (aa (Aq Bnq (Aq Bnr AP)))
def Q19:=fkl func213 (N [J c'5,B,B]) (V [(6,B)]) Hk [] (U [(4,m [(1,B),(2,B),(3,C 48),(7,B),(32,H)] [(48,c'5)])]) (z [(1,B),(2,B),(3,C 48),(7,B)] [(48,c'5)]) [xt 0 [],rx [(6,B)]] TA
def Q20:=fkl func244 (N [W 185,J [A,A,A,A,O]]) (V [(4,Y 0 185)]) MH [Q17] (jl [(10,m [(0,W 185),(3,C 48),(5,Y 0 185),(6,H),(7,B)] [(48,[A,A,A,A,O])]),(1048582,m [(0,W 185),(3,C 48),(5,Y 0 185),(6,H),(7,B),(23,H)] [(48,[A,A,A,A,O])])]) (z [(0,W 185),(3,C 48),(5,Y 0 185),(6,H),(7,B)] [(48,[A,A,A,A,O])]) [xh 0 [(3,C 48),(5,Y 0 185),(6,H)] [(48,[A,A,A,A,O])]] OH
def Q21:=fkj func182 (N [J c'2,J c'5,J [A,A,A,A,A]]) (rh [(6,C 96),(7,B)] [(96,c'4)]) JX [Q18,Q14,Q19,Q20] (U [(12,m [(4,C 64),(5,C 80),(6,C 96),(8,B),(77,H)] [(64,c'4),(80,[A,A,A,A,A]),(96,c'6)]),(1048592,m [(4,C 64),(6,C 96),(8,B)] [(64,c'7),(96,c'8)])])
def Q22:=fkl func125 (N [J c'2,J [o,o,A]]) (rh [(4,C 64)] [(64,c'4)]) Ih [Q9,Q10,Q16,Q21] (U []) (z [(2,C 32),(4,C 64),(5,C 80),(6,Y 0 226),(8,B)] [(32,c'2),(64,c'9),(80,Bvb)]) [xh 0 [(4,C 64),(5,C 80)] [(64,c'4),(80,c'6)]] PO
def Q23:=fkj func245 (N [B,J [o,o,A],B,B]) (V [(8,B)]) JW [Q7] (U [(3,jn [(22,H)])])
def Q24:=fk0 func183 (N [B,J [o,o,A],B,B]) (rh [(8,C 128),(9,B),(10,B)] [(128,[o,o,A])]) Ql [Q23]
def Q25:=fk0 func247 (N [H]) (V [(2,B)]) NC []
def Bea:Sp:=z [(3,C 48),(5,Y 0 226),(6,B)] [(48,c'5)]
def Be2:SL:=[xh 0 [(3,C 48),(5,Y 0 226)] [(48,c'5)]]
def Beb:Sp:=z [(3,C 48),(5,Y 0 226),(7,B)] [(48,c'5)]
def Be3:SL:=[xt 2 [(5,Y 0 226)]]
def t26:List KP:=[Q18,Q25]
def P26:LP:=pl [aB Bea Be2 Jn,aB Beb Be3 Jo]
def Bnt:LK f186 P26 1:=lk0 t26 (U []) 2 Beb Be3 Jo
def Bns:LK f186 P26 0:=lk0 t26 (U []) 1 Bea Be2 Jn
def Q26:=fk1 func186 (N [J c'2,J c'5]) (V [(4,Y 0 226)]) Lw t26 (U []) P26 (aa (Aq Bns (Aq Bnt AP)))
def Q27:=fk0 func246 (N [J c'2,J [A,A,A,A,A]]) (V [(4,os),(5,B)]) Of [Q14,Q11]
def Q28:=fkl func185 (N [J c'2,W 226]) (V [(4,os)]) Mn [Q27] (U []) (z [(1,W 226),(2,C 32),(5,os),(6,B)] [(32,c'2)]) [xt 0 [(5,os)]] RD
def Q29:=fkl func184 (N [B,J [o,o,A],B,os,B]) (rh [(10,C 160),(11,B),(12,B)] [(160,[o,o,A])]) Mm [Q23] (U []) (z [(2,B),(3,os),(4,B),(6,C 96),(10,C 160),(14,B)] [(96,[o,o,A]),(160,[o,o,A])]) [xh 0 [(4,B),(6,C 96),(10,C 160)] [(96,[o,o,A]),(160,[o,o,A])],yh [(10,C 160),(11,B),(12,B)] [(160,[o,o,A])]] MP
def Q30:=fk0 func187 (N [B,J [o,o,A],B,B]) (rh [(8,C 128),(9,B),(10,B)] [(128,[o,o,A])]) Oe [Q23]
def Q31:=fk0 func126 (N [J c'2,J [o,o,A],J c'5,B]) (rh [(8,C 128),(9,B),(10,B)] [(128,[o,o,A])]) JE [Q8,Q18,Q24,Q26,Q28,Q29,Q30]
def Q32:=fk0 func74 (N [J c'2,J [o,o,A],B]) (rh [(6,C 96),(7,C 112),(8,B),(9,B)] [(96,[o,o,A]),(112,c'4)]) MG [Q8,Q22,Q31]
def Q33:=fkj func50 (N [J c'2,J c'5]) (V [(4,H)]) Oz [Q18] (U [(1,jn [(4,H)])])
def Q34:=fk0 func127 (N []) (rh [(0,C 0)] [(0,Km)]) UH []
def Bec:Sp:=z [(3,C 48),(4,C 64),(6,C 96),(8,B),(9,C 144),(10,B)] [(48,c'2),(64,c'5),(96,Nr),(144,Amz)]
def Be4:SL:=[xh 0 [(3,C 48),(4,C 64),(6,C 96),(9,C 144)] [(48,c'2),(64,c'5),(96,Nr),(144,Amz)]]
def Bed:Sp:=z [(3,C 48),(4,C 64),(6,C 96),(9,C 144),(11,B)] [(48,c'2),(64,c'5),(96,Nr),(144,Amz)]
def Be5:SL:=[xh 2 [(6,C 96),(9,C 144)] [(96,Nr),(144,Amz)]]
def J35:=jl [(17,m [(3,C 48),(4,C 64),(6,C 96),(9,C 144),(11,B),(12,B)] [(48,c'2),(64,c'5),(96,Nr),(144,Amz)])]
def t35:List KP:=[Q33,Q7,Q34]
def P35:LP:=pl [aB Bec Be4 MS,aB Bed Be5 MT]
def Bnv:LK f75 P35 1:=lk0 t35 J35 2 Bed Be5 MT
def Bnu:LK f75 P35 0:=lk0 t35 J35 1 Bec Be4 MS
def Q35:=fk1 func75 (N [J c'2,J c'5,J [o,o,A]]) (rh [(6,C 96),(7,B)] [(96,Bb3)]) Qx t35 J35 P35 (aa (Aq Bnu (Aq Bnv AP)))
def Q36:=fkj func26 (N [J c'2,J [o,o,A],B]) (rh [(6,C 96),(7,B),(8,B)] [(96,Bb3)]) Oy [Q32,Q35] (U [(1048580,m [(3,C 48),(6,C 96),(9,C 144),(10,C 160),(11,B)] [(48,c'2),(96,Nr),(144,[o,o,A]),(160,c'5)])])
def Q37:=fk0 func11 (N [J c'2]) (rh [(2,C 32),(3,B)] [(32,Bb3)]) Ka [Q36]
def Q38:=fkl func14 (N [J c'2,J Xn]) (rh [(4,C 64)] [(64,Mh)]) HZ [] (jl [(7,m [(2,C 32),(3,C 48),(4,C 64),(5,o4)] [(32,c'2),(48,Xn),(64,Mh)])]) (z [(2,C 32),(3,C 48),(4,C 64),(5,o4),(6,Y 0 53),(7,B)] [(32,c'2),(48,Xn),(64,Xo)]) [xh 0 [(3,C 48),(4,C 64),(6,Y 0 53)] [(48,Xn),(64,Xo)]] Ws
def Q39:=fkl func6 (N [J c'2,J Ah6]) (rh [(4,C 64)] [(64,Mh)]) Ia [Q38] (jl [(5,m [(2,C 32),(3,C 48),(4,C 64),(5,C 80)] [(32,c'2),(48,Ah6),(64,Mh),(80,Xo)]),(7,m [(2,C 32),(3,C 48),(4,C 64),(5,C 80)] [(32,c'2),(48,Ah6),(64,Mh),(80,Xo)]),(15,m [(2,C 32),(3,C 48),(4,C 64),(5,C 80),(6,B),(8,o1),(9,C 144)] [(32,c'2),(48,Ah6),(64,Mh),(80,Xo),(144,Bvc)])]) (z [(2,C 32),(3,C 48),(4,C 64),(5,C 80),(6,B)] [(32,c'2),(48,Ah6),(64,Mh),(80,Xo)]) [xh 0 [(2,C 32),(4,C 64),(5,C 80)] [(32,c'2),(64,Mh),(80,Xo)]] Wt
def Q40:=fkl func170 (N [J c'2]) (rh [(2,C 32)] [(32,[D,D])]) Jf [Q12] (jl [(8,m [(1,C 16),(2,C 32),(3,C 48),(4,B)] [(16,c'2),(32,[D,D]),(48,[D,D])])]) (z [(1,C 16),(2,C 32),(3,C 48),(4,B)] [(16,c'2),(32,[D,D]),(48,[D,D])]) [xh 0 [(2,C 32),(3,C 48)] [(32,[D,D]),(48,[D,D])]] Tw
def Q41:=fkj func109 (N [J c'2,J [D,D]]) (V [(4,H)]) Oa [Q40] (U [(2,jn [(4,H)])])
def Q42:=fkj func110 (N [B,B,B]) (V [(6,H)]) Nh [] (U [(1,jn [(6,H)])])
def Q43:=fk0 func111 (N [J c'2,o4]) (V [(4,H)]) NZ []
def Q44:=fkl func65 (N [J c'2,J Xn]) (V [(4,H)]) Si [Q6,Q41,Q42,Q43] (U [(1,m [(2,C 32),(3,C 48),(55,H)] [(32,c'2),(48,Xn)])]) (z [(2,C 32),(3,C 48),(5,B)] [(32,c'2),(48,Xn)]) [xt 0 [],rx [(4,H)]] OD
def Q45:=fkl func66 (N [VU,B]) (V [(4,os)]) CE [] (U []) (sp [(0,VU),(1,B),(5,Y 0 5),(6,B)]) [xt 0 [(5,Y 0 5)]] VD
def Q46:=fk0 func67 (N [J [D,D]]) (V [(2,os)]) Qi [Q45]
def Q47:=fkl func68 (N [W 4]) (V [(2,os)]) Sl [Q45] (U []) (sp [(0,W 4),(3,VU),(4,B)]) [xt 0 [(3,VU)]] Tx
def Bee:Sp:=sp [(0,os),(3,B),(4,B)]
def Be6:SL:=[xt 0 [(3,B)]]
def Bef:Sp:=sp [(0,os),(3,B),(4,B),(5,B)]
def Be7:SL:=[xt 2 [(0,os),(3,B),(4,B)]]
def P48:LP:=pl [aB Bee Be6 MN,aB Bef Be7 MO]
def Bfj:LK f112 P48 1:=lk0 [] (U []) 2 Bef Be7 MO
def Bnw:LK f112 P48 0:=lk0 [] (U []) 1 Bee Be6 MN (hin:=(aa (Aq Bfj AP)))
def Q48:=fk1 func112 (N [os]) (V [(2,.one (.int .u16))]) Qh [] (U []) P48 (aa (Aq Bnw (Aq Bfj AP)))
def Q49:=fk0 func70 (N [os]) (V [(2,os)]) NW [Q48]
def Q50:=fkl func23 (N [J c'2,J Xn]) (V [(4,os),(5,B)]) Ng [Q44,Q45,Q46,Q47,Q49] (U []) (z [(3,C 48),(6,os),(7,B)] [(48,Xn)]) [xt 0 [(6,os)]] SB
def Beg:Sp:=z [(1,W 5),(2,B),(3,C 48),(7,Y 0 9),(8,B)] [(48,c'2)]
def Be8:SL:=[xt 0 [(7,Y 0 9)]]
def Beh:Sp:=z [(1,W 5),(2,B),(3,C 48),(7,Y 0 9),(8,B),(9,C 144),(10,os),(12,B)] [(48,c'2),(144,Ah6)]
def Be9:SL:=[xh 2 [(1,W 5),(2,B),(3,C 48),(7,Y 0 9),(8,B)] [(48,c'2)]]
def t51:List KP:=[Q39,Q50]
def P51:LP:=pl [aB Beg Be8 PL,aB Beh Be9 PM]
def Bfk:LK f13 P51 1:=lk0 t51 (U []) 2 Beh Be9 PM
def Bnx:LK f13 P51 0:=lk0 t51 (U []) 1 Beg Be8 PL (hin:=(aa (Aq Bfk AP)))
def Q51:=fk1 func13 (N [J c'2,W 5,B]) (V [(6,Y 0 9)]) NT t51 (U []) P51 (aa (Aq Bnx (Aq Bfk AP)))
def Q52:=fkl func52 (N [J c'5,W 3]) (V [(4,H)]) DD [] (U []) (z [(1,W 3),(2,C 32),(5,B)] [(32,c'5)]) [xh 0 [(1,W 3),(2,C 32)] [(32,c'5)],rx [(4,H)]] Jp
def Q53:=fkj func53 (N [B]) (V [(2,H)]) Kb [] (U [(1,jn [(2,H)])])
def Q54:=fkl func54 (N [B,J Kn]) (V [(4,H)]) JC [] (U []) (z [(0,B),(3,C 48),(5,B)] [(48,Kn)]) [xt 0 [],rx [(4,H)]] OE
def Q55:=fkj func102 (N [B,B,B]) (V [(6,H)]) Ji [] (U [(1,jn [(6,H)])])
def Q56:=fkl func55 (N [J c'2,B,J CR]) (V [(6,H)]) CM [Q6,Q55,Q12] (U [(1,m [(1,B),(3,C 48),(5,C 80),(57,H)] [(48,c'2),(80,CR)]),(9,m [(1,B),(3,C 48),(5,C 80),(7,B),(115,H)] [(48,c'2),(80,CR)])]) (z [(1,B),(3,C 48),(5,C 80),(7,B)] [(48,c'2),(80,CR)]) [xt 0 [],rx [(6,H)]] OI
def Q57:=fkj func104 (N [J [A,A]]) (V [(2,H)]) Do [] (U [(1,jn [(2,H)])])
def Q58:=fkj func167 (N [B]) (V [(2,H)]) PH [] (U [(1,jn [(2,H)])])
def Q59:=fkj func105 (N [J [A,A,A,O,A]]) (V [(2,H)]) FB [Q58] (U [(3,jn [(2,H)])])
def Q60:=fkj func168 (N [B,B]) (V [(4,H)]) HE [] (U [(1,jn [(4,H)])])
def Q61:=fk0 func169 (N [J [A,A,A]]) (V [(2,B)]) DU []
def Q62:=fkj func106 (N [B,J [A,A,A]]) (V [(4,H)]) Dp [Q60,Q61] (U [(8,jn [(4,H)])])
def Q63:=fkj func56 (N [J c'2,J Bp]) (V [(4,H)]) FC [Q6,Q57,Q59,Q62] (U [(5,m [(2,C 32),(3,C 48),(42,H)] [(32,c'2),(48,Bp)]),(7,jn [(4,H)])])
def Q64:=fkl func20 (N [J c'2,J Db]) (V [(4,H)]) Fj [Q6,Q33,Q7,Q52,Q53,Q54,Q56,Q63] (U []) (z [(2,C 32),(3,C 48),(5,B),(6,B)] [(32,c'2),(48,Db)]) [xt 0 [],rx [(4,H)]] Mc
def Q65:=fk0 func128 (N [J c'2]) (V [(2,B),(3,B)]) Sj [Q6]
def Q66:=fk0 func188 (N [os]) (V [(2,os),(3,B)]) Sh [Q49]
def Q67:=fk0 func129 (N [J c'2,os,B,B]) (V [(8,B)]) Sm [Q6,Q66]
def Q68:=fkl func131 (N [os,B,B]) (V [(6,VU)]) FV [] (U []) (sp [(0,os),(1,B),(2,B),(7,VU),(8,B)]) [xt 0 [(7,VU)]] RC
def Q69:=fk0 func130 (N [os,B]) (rh [(4,C 64)] [(64,[D,D])]) Sn [Q68]
def Q70:=fk0 func132 (N [os,B,B]) (V [(6,H)]) UF []
def Q71:=fkl func76 (N [J c'2,os]) (rh [(4,C 64),(5,B)] [(64,Mh)]) NY [Q65,Q67,Q69,Q68,Q70,Q50] (U []) (z [(1,os),(2,C 32),(4,C 64),(9,C 144),(10,B)] [(32,c'2),(64,Mh),(144,Xo)]) [xh 0 [(1,os),(2,C 32),(4,C 64),(9,C 144)] [(32,c'2),(64,Mh),(144,Xo)]] PN
def Q72:=fk0 func134 (N [B]) (V [(2,B)]) Jk []
def Q73:=fk0 func189 (N [J [D,O,O,O,O],B]) (V [(4,H)]) QQ []
def Q74:=fkj func190 (N [J [D,O,O,O,O],B,H]) (rh [(6,C 96)] [(96,[D,O,O,O,O])]) UG [] (U [(1,m [(1,B),(2,H),(3,C 48),(6,C 96),(7,H)] [(48,[D,O,O,O,O]),(96,[D,O,O,O,O])]),(3,m [(1,B),(2,H),(3,C 48),(6,C 96),(24,H)] [(48,[D,O,O,O,O]),(96,[D,O,O,O,O])])])
def Q75:=fkl func135 (N [B,J Kn,J [D,O,O,O,O]]) (rh [(6,C 96),(7,B)] [(96,Kn)]) So [Q54,Q73,Q74] (U []) (z [(0,B),(4,C 64),(5,C 80),(6,C 96),(8,B)] [(64,Kn),(80,[D,O,O,O,O]),(96,Kn)]) [xh 0 [(4,C 64),(6,C 96)] [(64,Kn),(96,Kn)]] Zo
def Q76:=fk0 func191 (N [J c'2,.one cf]) (V [(4,B)]) Qk [Q6]
def Q77:=fkj func136 (N [J c'2,J [A],.one cf]) (rh [(6,C 96)] [(96,[A])]) Sq [Q76] (U [(4,m [(2,.one cf),(3,C 48),(4,C 64),(6,C 96),(7,B),(28,H)] [(48,c'2),(64,[A]),(96,[A])]),(6,m [(4,C 64),(6,C 96),(7,B),(44,H)] [(64,[A]),(96,[A])])])
def Q78:=fkl func77 (z [(0,C 65536)] [(65536,Dc)]) [ry [] [(65536,Dc)],(.normal,su [] [(65536,Dc)])] DW [Q72,Q75,Q77] (U []) (su [(0,C 65536),(2,B)] [(65536,Dc)]) [xu 0 [] [(65536,Dc)]] JK
def Q79:=fkj func59 (N [B]) (V [(2,H)]) Bc [] (U [(1,jn [(2,H)])])
def Q80:=fkj func248 (N [B]) (V [(2,H)]) PE [] (U [(1,jn [(2,H)])])
def Q81:=fkl func192 (N [B,o4]) (V [(4,B)]) Qj [Q80] (U []) (sp [(0,B),(1,o4),(5,B)]) [xt 0 [],rx [(4,B)]] YB
def Q82:=fkj func137 (N [B,J [D,O,O,O,O]]) (rh [(4,C 64)] [(64,[A,A,A])]) Ob [Q81] (jl [(9,m [(3,C 48),(4,C 64),(5,C 80)] [(48,[D,O,O,O,O]),(64,[A,A,A]),(80,[A,A,A])]),(1048578,m [(3,C 48),(4,C 64),(5,C 80),(11,H)] [(48,[D,O,O,O,O]),(64,[A,A,A]),(80,[A,A,A])]),(1048584,m [(3,C 48),(4,C 64),(5,C 80),(27,H)] [(48,[D,O,O,O,O]),(64,[A,A,A]),(80,[A,A,A])])])
def Q83:=fkj func193 (N [B,J [A,A,A]]) (V [(4,H)]) JU [Q80] (U [(1,jn [(4,H)])])
def Q84:=fkj func138 (N [B,J [A,A,A]]) (rh [(4,C 64)] [(64,[D,D])]) JV [Q83] (U [(4,m [(3,C 48),(4,C 64),(5,o4),(25,H)] [(48,[A,A,A]),(64,[D,D])]),(6,m [(4,C 64),(5,o4),(38,H)] [(64,[D,D])])])
def Q85:=fkj func217 (N [J [D,D],B,B]) (V [(6,H)]) Ek [] (U [(3,jn [(6,H)])])
def Q86:=fkl func194 (N [J c'2,B,J CR,J [D,D]]) (rh [(8,C 128)] [(128,Km)]) Ot [Q85] (U [(8,m [(1,B),(4,C 64),(6,C 96),(7,C 112),(8,C 128),(9,Y 0 143),(10,H),(11,B),(12,C 192)] [(64,c'2),(96,CR),(112,[D,D]),(128,RN),(192,[A,A,A])])]) (z [(1,B),(4,C 64),(6,C 96),(7,C 112),(8,C 128),(9,Y 0 143),(10,H),(11,B)] [(64,c'2),(96,CR),(112,[D,D]),(128,RN)]) [xh 0 [(6,C 96),(8,C 128),(9,Y 0 143),(10,H)] [(96,CR),(128,RN)]] Zp
def Q87:=fkj func139 (N [J c'2,B,J CR,J [A,A,A]]) (rh [(8,C 128),(9,B)] [(128,Km)]) MI [Q56,Q83,Q84,Q86] (jl [(7,m [(6,C 96),(7,C 112),(8,C 128)] [(96,Km),(112,[A,A,A]),(128,RN)]),(1048583,m [(6,C 96),(8,C 128),(55,H)] [(96,Km),(128,RN)])])
def Q88:=fk0 func140 (N [J c'2,B,J CR]) (rh [(6,C 96),(7,B)] [(96,Km)]) Qo [Q56,Q86]
def Q89:=fkj func141 (N [B]) (V [(2,H)]) Cc [] (U [(1,jn [(2,H)])])
def Q90:=fkj func108 (N [J c'5,B]) (V [(4,H)]) QR [] (U [(1,jn [(4,H)])])
def Q91:=fkj func58 (N [J c'5,B]) (V [(4,H)]) HG [Q90] (U [(1,jn [(4,H)])])
def Q92:=fkl func64 (N [J c'5]) (V [(2,Y 0 68)]) Em [Q91] (U []) (z [(1,C 16),(3,Y 0 68),(4,B)] [(16,c'5)]) [xt 0 [(3,Y 0 68)]] OJ
def Q93:=fk0 func61 (N [B,B]) (rh [(4,C 64)] [(64,[D,D])]) El []
def Q94:=fk0 func60 (N [J [D,D],J [D,D]]) (rh [(4,C 64)] [(64,[D,D])]) Di []
def Q95:=fkl func63 (N [J c'2,J c'5,W 68,B]) (rh [(8,C 128)] [(128,[D,D])]) JZ [Q18,Q93,Q94] (U [(8,m [(2,W 68),(3,B),(5,C 80),(8,C 128),(9,C 144),(10,B),(11,C 176),(63,H)] [(80,c'5),(128,[D,D]),(144,[D,D]),(176,[A,A,A,A,O])])]) (z [(2,W 68),(3,B),(5,C 80),(8,C 128),(9,C 144),(10,B)] [(80,c'5),(128,[D,D]),(144,[D,D])]) [xh 0 [(8,C 128),(9,C 144)] [(128,[D,D]),(144,[D,D])]] RG
def Q96:=fkj func195 (N [J c'2,B,J Bp]) (V [(6,H)]) Mr [Q63] (U [(1,jn [(6,H)])])
def Q97:=fkj func21 (N [J c'2,J [A,O,A,O]]) (V [(4,H)]) Dz [] (U [(1,jn [(4,H)])])
def Q98:=fkj func249 (N [J [A,A,A]]) (rh [(2,C 32)] [(32,[A,A,A])]) HF [] (U [(1,m [(1,C 16),(2,C 32),(10,H)] [(16,[A,A,A]),(32,[A,A,A])])])
def Q99:=fkj func196 (N [B,J [A,A,A],J [A,O,A,O],B]) (rh [(8,C 128),(9,B),(10,H)] [(128,[A,A,A])]) Ly [Q62,Q60,Q61,Q98] (U [(4,m [(5,C 80),(8,C 128),(35,H)] [(80,[A,A,A]),(128,[A,A,A])]),(10,m [(3,B),(8,C 128),(11,C 176),(56,H)] [(128,[A,A,A]),(176,[A,A,A])])])
def Boa:=fkj func250 (N [J c'3,J [A,A,A,O,A]]) (V [(4,H)]) Oj [] (U [(1,jn [(4,H)])])
def Bob:=fk0 func251 (N [J c'3,J [A,A,A]]) (V [(4,H)]) Ol []
def Ba1:=fk0 func197 (N [J c'2,B,J Bp,B]) (rh [(8,C 128),(9,B),(10,B)] [(128,Bp)]) KQ [Boa,Bob]
def Ba2:=fk0 func298 (N [B,J [D,D,D]]) (rh [(4,C 64)] [(64,[D,D,D])]) Gs []
def Bg9:=fkj func353 (N [J [A,A],B,J [D,D,D]]) (rh [(6,C 96)] [(96,[D,D,D])]) Ii [] (jl [(6,m [(3,C 48),(5,C 80),(6,C 96),(7,C 112),(8,o4)] [(48,[A,A]),(80,[D,D,D]),(96,[D,D,D]),(112,[D,D,D])]),(8,m [(3,C 48),(5,C 80),(6,C 96),(7,C 112),(8,o4)] [(48,[A,A]),(80,[D,D,D]),(96,[D,D,D]),(112,[D,D,D])])])
def Bha:=fk0 func303 (N [J [A,A],B,J [D,D,D]]) (V [(6,B)]) GM [Bg9]
def Boc:=fk0 func350 (N [B,J [A,A],B,J [D,D,D]]) (rh [(8,C 128)] [(128,[D,D,D])]) Mo [Q57,Ba2,Bha,Bg9]
def Bhb:=fk0 func258 (N [J [D,D],J [D,D]]) (rh [(4,C 64)] [(64,[D,D])]) FW []
def Bod:=fkl func351 (N [J [D,D,D],B]) (V [(4,H),(5,B)]) Mp [] (U []) (z [(1,B),(2,C 32),(6,B)] [(32,[D,D,D])]) [xt 0 [],rx [(4,H),(5,B)]] YC
def Boe:=fkl func352 (N [J [D,D,D],B]) (V [(4,H),(5,B)]) Mq [] (U []) (z [(1,B),(2,C 32),(6,B)] [(32,[D,D,D])]) [xt 0 [],rx [(4,H),(5,B)]] YD
def Bof:=fkj func297 (N [B,J [A,A],B,J [D,D,D]]) (rh [(8,C 128)] [(128,Bb4)]) Oi [Boc,Bhb,Q85,Bod,Boe] (U [(7,m [(8,C 128),(11,C 176),(14,H),(64,H)] [(128,Bb4),(176,Bb4)])])
def Ba3:=fk0 func301 (N [B]) (rh [(2,C 32)] [(32,[A,A,A])]) DT []
def Ba4:=fk0 func302 (N [B]) (rh [(2,C 32)] [(32,[A,A,A])]) Jh []
def Bog:=fkj func299 (N [B,B,H,H,H,H,H]) (rh [(14,C 224),(15,H)] [(224,[A,A,A])]) Gh [Ba3,Ba4] (U [(1,m [(0,B),(1,B),(2,H),(4,H),(5,H),(6,H),(14,C 224),(16,H)] [(224,[A,A,A])]),(3,m [(0,B),(1,B),(2,H),(5,H),(14,C 224),(29,H)] [(224,[A,A,A])])])
def Boh:=fk0 func300 (N [B,H,H]) (rh [(6,C 96)] [(96,[A,A,A])]) GN [Ba3,Ba4]
def Bhc:=fk0 func252 (N [B,J [A,A],B,J [D,D,D]]) (rh [(8,C 128)] [(128,[A,A,A])]) KN [Q57,Ba2,Bof,Bog,Boh,Ba3,Ba4]
def Boi:=fk0 func253 (N [B,J [A,A],B,J [D,D,D]]) (rh [(8,C 128)] [(128,[A,A])]) Sr [Q57,Bhc,Ba2,Bha]
def Bhd:=fk0 func255 (N [J [A,A,A,O,A],B]) (rh [(4,C 64)] [(64,[A,A,A,O,A])]) Nj []
def Ba5:=fk0 func256 (N [B]) (V [(2,B)]) EY []
def Boj:=fkj func257 (N [J [A,A,A,O,A]]) (rh [(2,C 32),(3,B)] [(32,[A,A,A,O,A])]) KO [Ba5,Bhd] (U [(1,m [(1,C 16),(2,C 32),(10,H)] [(16,[A,A,A,O,A]),(32,[A,A,A,O,A])])])
def Bhe:=fkj func199 (N [J c'3,J [A,A,A,O,A],B,H,H]) (rh [(10,C 160),(11,B)] [(160,[A,A,A,O,A])]) Lx [Q59,Bhd,Ba5,Boj] (jl [(4,m [(2,B),(3,H),(4,H),(5,C 80),(6,C 96),(10,C 160)] [(80,c'3),(96,[A,A,A,O,A]),(160,[A,A,A,O,A])]),(10,m [(2,B),(3,H),(5,C 80),(6,C 96),(10,C 160)] [(80,c'3),(96,[A,A,A,O,A]),(160,[A,A,A,O,A])]),(1048586,m [(2,B),(3,H),(5,C 80),(6,C 96),(10,C 160),(12,H),(36,H)] [(80,c'3),(96,[A,A,A,O,A]),(160,[A,A,A,O,A])]),(1048590,m [(3,H),(5,C 80),(6,C 96),(10,C 160),(12,H),(51,H)] [(80,c'3),(96,[A,A,A,O,A]),(160,[A,A,A,O,A])]),(1048594,m [(3,H),(6,C 96),(10,C 160),(66,H)] [(96,[A,A,A,O,A]),(160,[A,A,A,O,A])]),(1048596,m [(6,C 96),(10,C 160),(84,H)] [(96,[A,A,A,O,A]),(160,[A,A,A,O,A])])])
def Bok:=fk0 func254 (N [J c'2,B,B,B]) (V [(8,B)]) Ss [Q6]
def Bol:=fkj func198 (N [J c'2,B,J Bp,J [A,O,A,O],J [D,D]]) (rh [(10,C 160),(11,B),(12,B)] [(160,Bp)]) On [Bhc,Boi,Bhe,Q99,Bok,Ba1] (jl [(19,m [(1,B),(5,C 80),(7,C 112),(10,C 160),(14,B)] [(80,c'2),(112,Bp),(160,Bp)])])
def Bom:=fkj func142 (N [J c'2,B,J Bp,J [A,O,A,O],o4,J [D,D]]) (rh [(12,C 192),(13,B),(14,B)] [(192,Bp)]) Su [Q96,Q97,Q99,Ba1,Bol,Bhe] (jl [(11,m [(1,B),(6,C 96),(8,C 128),(9,C 144),(11,C 176),(12,C 192),(15,C 240),(16,o4),(17,o4)] [(96,c'2),(128,Bp),(144,[A,O,A,O]),(176,[D,D]),(192,Bp),(240,c'3)]),(20,m [(1,B),(6,C 96),(8,C 128),(12,C 192),(18,B)] [(96,c'2),(128,Bp),(192,Bp)]),(21,[(.normal,z [(1,B),(6,C 96),(8,C 128),(9,C 144),(11,C 176),(12,C 192),(15,C 240),(16,o4)] [(96,c'2),(128,Bp),(144,[A,O,A,O]),(176,[D,D]),(192,Bp),(240,c'3)]),yh [(12,C 192),(13,B),(14,B)] [(192,Bp)]]),(24,m [(1,B),(6,C 96),(8,C 128),(9,C 144),(11,C 176),(12,C 192),(15,C 240),(16,o4)] [(96,c'2),(128,Bp),(144,[A,O,A,O]),(176,[D,D]),(192,Bp),(240,c'3)]),(29,m [(1,B),(6,C 96),(8,C 128),(12,C 192),(18,B)] [(96,c'2),(128,Bp),(192,Bp)]),(31,m [(1,B),(6,C 96),(8,C 128),(12,C 192),(18,B)] [(96,c'2),(128,Bp),(192,Bp)]),(1048588,m [(1,B),(6,C 96),(8,C 128),(9,C 144),(11,C 176),(12,C 192),(15,C 240),(16,o4),(78,H)] [(96,c'2),(128,Bp),(144,[A,O,A,O]),(176,[D,D]),(192,Bp),(240,c'3)]),(1048592,m [(1,B),(6,C 96),(8,C 128),(9,C 144),(11,C 176),(12,C 192),(15,C 240),(16,o4),(18,B),(19,C 304),(102,H)] [(96,c'2),(128,Bp),(144,[A,O,A,O]),(176,[D,D]),(192,Bp),(240,c'3),(304,[A,A,A])]),(1048593,m [(1,B),(6,C 96),(8,C 128),(12,C 192),(18,B),(111,H)] [(96,c'2),(128,Bp),(192,Bp)]),(1048596,m [(1,B),(6,C 96),(8,C 128),(9,C 144),(11,C 176),(12,C 192),(15,C 240),(16,o4),(129,H)] [(96,c'2),(128,Bp),(144,[A,O,A,O]),(176,[D,D]),(192,Bp),(240,c'3)])])
def Bon:=fk0 func200 (N [J [A,A,A,O,A]]) (rh [(2,C 32)] [(32,[A,A,A,O,A])]) Ok [Q59,Ba5]
def Boo:=fkj func201 (N [J [A,A,A]]) (rh [(2,C 32)] [(32,[A,A,A])]) Om [Q98] (U [(1,m [(1,C 16),(2,C 32),(10,H)] [(16,[A,A,A]),(32,[A,A,A])])])
def Bop:=fk0 func143 (N [J c'2,B,J Bp]) (rh [(6,C 96),(7,B),(8,B)] [(96,Bp)]) Qm [Q96,Bon,Boo,Ba1]
def Boq:=fkl func78 (z [(0,C 65536)] [(65536,Dc)]) (nu [] [(65536,Dc)]) DV [Q79,Q82,Q84,Q87,Q88,Q89,Q92,Q95,Bom,Bop] (jl [(18,nu [(0,C 65536),(2,B),(3,B),(6,C 96)] [(96,[D,D]),(65536,Dc)]),(1048583,nu [(0,C 65536),(2,B),(3,B),(4,B),(46,H)] [(65536,Dc)]),(1048589,nu [(0,C 65536),(2,B),(3,B),(4,B),(135,H)] [(65536,Dc)])]) (su [(0,C 65536),(2,B),(3,B)] [(65536,Dc)]) [xu 0 [] [(65536,Dc)]] JJ
def Bhf:=fkj func214 (N [J c'2,J c'5]) (V [(4,H)]) Lv [Q18] (U [(1,jn [(4,H)])])
def Bor:=fkj func202 (N [J c'2,J [o,o,A],J c'5,J [A,A,A,A,A],B]) (rh [(10,C 160),(11,C 176),(12,B),(13,B)] [(160,[o,o,A]),(176,c'5)]) Og [Q8,Q18,Q14,Q19,Bhf,Q21,Q10,Q28,Q29,Q31] (jl [(11,m [(4,B),(6,C 96),(7,C 112),(10,C 160),(11,C 176),(14,C 224),(16,B)] [(96,[o,o,A]),(112,c'5),(160,[o,o,A]),(176,c'4),(224,c'6)]),(1048579,m [(4,B),(5,C 80),(6,C 96),(7,C 112),(8,C 128),(10,C 160),(11,C 176),(53,H)] [(80,c'2),(96,[o,o,A]),(112,c'5),(128,[A,A,A,A,A]),(160,[o,o,A]),(176,c'4)])])
def Ba6:=fkl func144 (z [(0,C 65536),(1,W 226)] [(65536,Dc)]) (nu [] [(65536,Dc)]) BB [Bor] (U []) (su [(0,C 65536),(1,W 226),(4,B)] [(65536,Dc)]) [xu 0 [] [(65536,Dc)]] IS
def Bos:=fkl func79 (z [(0,C 65536)] [(65536,Dc)]) (nu [] [(65536,Dc)]) DJ [Q79,Q89,Ba6] (U [(5,nu [(0,C 65536),(2,Y 0 226),(3,B),(61,H)] [(65536,Bb5)])]) (su [(0,C 65536),(2,Y 0 226),(3,B)] [(65536,Bb5)]) [xu 0 [(0,C 65536),(2,Y 0 226)] [(65536,Bb5)]] IQ
def Bot:=fkj func205 (N [J c'2,B,J CR]) (V [(6,H)]) Qp [Q56] (U [(1,jn [(6,H)])])
def Bou:=fkj func206 (N [J c'2,J Bp,J [A,O,A,O]]) (V [(6,H)]) Qn [Q63] (U [(1,jn [(6,H)])])
def Bov:=fkl func146 (N [.one (.rp 165 0)]) (V [(2,Y 0 4)]) CF [Q79,Bot,Q89,Bou] (U []) (sp [(0,.one (.rp 165 0)),(3,Y 0 4),(4,B)]) [xt 0 [(3,Y 0 4)]] JI
def Bow:=fkl func203 (N [J c'5]) (V [(2,B)]) ML [] (U [(5,m [(1,C 16),(3,B),(4,B),(32,H)] [(16,c'5)])]) (z [(1,C 16),(3,B),(4,B)] [(16,c'5)]) [xt 0 [(3,B)]] UP
def Bhg:=fk0 func204 (N [B,B]) (V [(4,Y 0 226)]) FX []
def Box:=fkj func145 (N [J c'2,J c'5,J [A,A],W 4]) (V [(8,Y 0 226),(9,B)]) Qw [Q18,Bow,Bhg] (U [(18,m [(6,C 96),(81,H)] [(96,[A,A])]),(32,m [(6,C 96),(128,H)] [(96,[A,A])])])
def Boy:=fkl func207 (N [J c'5,B]) (V [(4,H)]) Jj [] (U []) (z [(1,B),(2,C 32),(5,B)] [(32,c'5)]) [xt 0 [],rx [(4,H)]] QT
def Boz:=fkl func147 (N [J c'2,J c'5,W 4]) (V [(6,Y 0 226)]) Sy [Q18,Boy,Bhg] (jl [(13,m [(2,W 4),(4,C 64),(7,Y 0 226),(8,B)] [(64,c'5)]),(1048583,m [(2,W 4),(4,C 64),(7,Y 0 226),(8,B),(9,H)] [(64,c'5)]),(1048584,m [(2,W 4),(4,C 64),(7,Y 0 226),(8,B),(9,H),(64,H)] [(64,c'5)])]) (z [(2,W 4),(4,C 64),(7,Y 0 226),(8,B)] [(64,c'5)]) [xt 0 [(7,Y 0 226)]] Zr
def Bo0:=fk0 func148 (N [J c'2,B,J CR]) (rh [(6,C 96),(7,B)] [(96,Km)]) Oo [Q56]
def Bo1:=fkl func80 (z [(0,C 65536)] [(65536,Dc)]) [ry [] [(65536,Dc)],(.normal,su [] [(65536,Dc)])] Dr [Bov,Box,Ba6,Boz,Q79,Q89,Q34,Bo0] (jl [(12,nu [(0,C 65536),(2,Y 0 4),(5,Y 1 4),(6,Y 2 4)] [(65536,Bvd)]),(1048593,nu [(0,C 65536),(2,Y 0 4),(5,Y 1 4),(8,B),(140,H)] [(65536,Bb6)]),(1048595,nu [(0,C 65536),(2,Y 0 4),(5,Y 1 4),(8,B),(173,H)] [(65536,Bb6)])]) (su [(0,C 65536),(2,Y 0 4),(5,Y 1 4),(8,B)] [(65536,Bb6)]) [xu 0 [] [(65536,Dc)]] Ik
def Bo2:=fkj func107 (N [J c'5,B]) (V [(4,H)]) GO [Q90] (U [(1,jn [(4,H)])])
def Bhh:=fkj func57 (N [J c'5,B]) (rh [(4,C 64)] [(64,FQ)]) HH [Bo2] (U [(2,m [(4,C 64)] [(64,FQ)])])
def Bo3:=fk0 func62 (N [J c'2,J Bp,J [A,O,A,O]]) (rh [(6,C 96)] [(96,[D,D])]) JY [Q63,Q12,Q93]
def Bhi:=fkl func22 (N [J c'2,J Db,J [A,O,A,O],B]) (rh [(8,C 128)] [(128,FQ)]) Jl [Bhh,Q91,Q79,Q93,Q94,Bo3,Q92,Q95] (jl [(16,m [(3,B),(4,C 64),(5,C 80),(8,C 128),(9,C 144)] [(64,c'2),(80,Db),(128,FQ),(144,FQ)])]) (z [(3,B),(5,C 80),(8,C 128),(9,C 144),(10,B)] [(80,Db),(128,FQ),(144,FQ)]) [xh 0 [(8,C 128),(9,C 144)] [(128,FQ),(144,FQ)]] Zs
def Bhj:=fk0 func212 (N [J [D,D],J [D,D]]) (rh [(4,C 64)] [(64,[D,D])]) Oc []
def Bhk:=fk0 func259 (N [J c'2,J FQ]) (rh [(4,C 64)] [(64,[D,D])]) KU [Q40,Bhj]
def Bo4:=fkl func208 (N [J c'2,W 68,W 55]) (rh [(6,C 96),(7,B)] [(96,Ad3)]) Qt [Q6,Bhk,Bhb,Q94] (U []) (z [(1,W 68),(2,W 55),(3,C 48),(6,C 96),(8,C 128),(9,B)] [(48,c'2),(96,Ad3),(128,Ats)]) [xh 0 [(6,C 96),(8,C 128)] [(96,Ad3),(128,Ats)]] RH
def Awh:Sp:=z [(2,W 68),(3,C 48),(4,C 64),(7,Y 0 226),(8,B)] [(48,c'2),(64,c'5)]
def Aw7:SL:=[xt 0 [(7,Y 0 226)]]
def Awi:Sp:=z [(2,W 68),(3,C 48),(4,C 64),(7,Y 0 226),(8,B),(9,C 144),(10,B)] [(48,c'2),(64,c'5),(144,[A,A,A,A,O])]
def Aw8:SL:=[xh 2 [(2,W 68),(3,C 48),(4,C 64),(7,Y 0 226),(8,B)] [(48,c'2),(64,c'5)]]
def t149:List KP:=[Q18,Bhk,Q85]
def Bap:LP:=pl [aB Awh Aw7 MQ,aB Awi Aw8 MR]
def Ayx:LK f210 Bap 1:=lk0 t149 (U []) 2 Awi Aw8 MR
def Bkg:LK f210 Bap 0:=lk0 t149 (U []) 1 Awh Aw7 MQ (hin:=(aa (Aq Ayx AP)))
def Bo5:=fk1 func210 (N [J c'2,J c'5,W 68]) (V [(6,Y 0 226)]) Qu t149 (U []) Bap (aa (Aq Bkg (Aq Ayx AP)))
def Bo6:=fkl func260 (N [J c'2,J c'5,W 226]) (rh [(6,C 96),(7,B)] [(96,c'5)]) Ow [Q21] (U []) (z [(2,W 226),(3,C 48),(4,C 64),(6,C 96),(8,B)] [(48,c'2),(64,c'5),(96,c'4)]) [xh 0 [(4,C 64),(6,C 96)] [(64,c'5),(96,c'4)],yh [(6,C 96),(7,B)] [(96,c'4)]] LC
def Bo7:=fk0 func304 (N [J c'5,W 3,B,B]) (V [(8,B)]) Ox [Q19]
def Bo8:=fkl func261 (N [J c'5,W 3,J c'5]) (V [(6,Y 0 3)]) Qv [Bo7] (U []) (z [(1,W 3),(3,C 48),(5,C 80),(7,Y 0 3),(8,B)] [(48,c'5),(80,c'5)]) [xt 0 [(7,Y 0 3)]] RJ
def Bo9:=fk0 func209 (N [J c'2,J PW,W 226]) (rh [(6,C 96)] [(96,Bjs)]) Hl [Bo6,Bo8]
def Awj:Sp:=z [(1,C 16),(3,Y 0 185),(4,B)] [(16,[D,D])]
def Aw9:SL:=[xt 0 [(3,Y 0 185)]]
def Awk:Sp:=z [(1,C 16),(3,Y 0 185),(4,B),(5,B)] [(16,[D,D])]
def Axa:SL:=[xh 2 [(1,C 16),(3,Y 0 185),(4,B)] [(16,[D,D])]]
def t154:List KP:=[Q85]
def Baq:LP:=pl [aB Awj Aw9 OF,aB Awk Axa OG]
def Ayy:LK f211 Baq 1:=lk0 t154 (U []) 2 Awk Axa OG
def Bkh:LK f211 Baq 0:=lk0 t154 (U []) 1 Awj Aw9 OF (hin:=(aa (Aq Ayy AP)))
def Bhl:=fk1 func211 (N [J [D,D]]) (V [(2,Y 0 185)]) Od t154 (U []) Baq (aa (Aq Bkh (Aq Ayy AP)))
def Bhm:=fkj func308 (N [J FQ]) (V [(2,H)]) Lz [] (U [(1,jn [(2,H)])])
def Bhn:=fkj func354 (N [B,J [D,D,D],B,B]) (V [(8,H)]) PI [] (U [(3,jn [(8,H)]),(5,jn [(8,H)])])
def Bpa:=fkl func309 (N [B,B,B,J [D,D,D],B,B]) (V [(12,B)]) Sw [Bhn] (U [(3,m [(0,B),(1,B),(2,B),(4,B),(5,B),(9,C 144),(64,H)] [(144,[D,D,D])]),(9,m [(0,B),(1,B),(2,B),(4,B),(5,B),(9,C 144),(13,B),(14,B),(15,B),(91,H)] [(144,[D,D,D])]),(13,jn [(1,B),(2,B),(4,B),(5,B),(13,B),(14,B),(108,H)]),(15,jn [(1,B),(2,B),(4,B),(5,B),(13,B),(14,B),(123,H)]),(19,jn [(1,B),(4,B),(5,B),(13,B),(14,B),(151,H)])]) (z [(0,B),(1,B),(2,B),(4,B),(5,B),(9,C 144),(13,B),(14,B),(15,B)] [(144,[D,D,D])]) [xt 0 [(1,B),(2,B),(4,B),(5,B),(13,B),(14,B)]] Zq
def Awl:Sp:=z [(0,B),(3,C 48),(5,B),(6,B)] [(48,[D,D,D])]
def Axb:SL:=[xt 0 [(5,B)]]
def Awm:Sp:=z [(0,B),(3,C 48),(5,B),(6,B),(7,B)] [(48,[D,D,D])]
def Axc:SL:=[xh 2 [(0,B),(3,C 48),(5,B),(6,B)] [(48,[D,D,D])]]
def t158:List KP:=[Bhn]
def Bar:LP:=pl [aB Awl Axb RE,aB Awm Axc RF]
def Ayz:LK f310 Bar 1:=lk0 t158 (U []) 2 Awm Axc RF
def Bki:LK f310 Bar 0:=lk0 t158 (U []) 1 Awl Axb RE (hin:=(aa (Aq Ayz AP)))
def Bpb:=fk1 func310 (N [B,J [D,D,D]]) (V [(4,B)]) Qr t158 (U []) Bar (aa (Aq Bki (Aq Ayz AP)))
def Bho:=fkj func263 (N [J c'2,B,J FQ,B,B]) (V [(10,B)]) EB [Q6,Bpa,Bpb] (jl [(7,m [(1,B),(3,B),(4,B),(5,C 80),(7,C 112),(11,B)] [(80,c'2),(112,FQ)])])
def Bhp:=fkj func307 (N [J c'2,W 68,B,B,B]) (rh [(10,C 160)] [(160,[A,A])]) Ov [Bhm,Bho] (jl [(5,m [(1,W 68),(2,B),(3,B),(4,B),(5,C 80),(10,C 160),(11,B)] [(80,c'2),(160,[A,A])])])
def Bhq:=fkj func306 (N [J [A,A],J [A,A]]) (V [(4,H)]) KR [] (U [(1,jn [(4,H)])])
def Bpc:=fkl func305 (N [J c'2,W 68,B,B,B]) (V [(10,B)]) KT [Q6,Bhp,Bhq] (U [(8,m [(1,W 68),(2,B),(3,B),(4,B),(5,C 80),(11,B),(12,B),(57,H)] [(80,c'2)])]) (z [(1,W 68),(2,B),(3,B),(4,B),(5,C 80),(11,B),(12,B)] [(80,c'2)]) [xt 0 [(11,B)]] PR
def Bpd:=fkj func262 (N [J c'2,J [A,A,A,A,O],B,W 68]) (rh [(8,C 128)] [(128,[A,A,A,A,O])]) MK [Bpc,Bhp,Bhq,Bhm] (U [(7,m [(2,B),(3,W 68),(4,C 64),(5,C 80),(8,C 128),(9,B),(35,H)] [(64,c'2),(80,[A,A,A,A,O]),(128,[A,A,A,A,O])]),(18,m [(3,W 68),(5,C 80),(8,C 128),(10,C 160),(11,B),(12,H)] [(80,[A,A,A,A,O]),(128,[A,A,A,A,O]),(160,FQ)]),(19,m [(5,C 80),(8,C 128),(11,B),(141,H)] [(80,[A,A,A,A,O]),(128,[A,A,A,A,O])])])
def Bpe:=fkl func215 (N [J c'2,J c'5,W 3,W 68]) (V [(8,Y 0 226),(9,Y 1 3),(10,B)]) Ou [Q18,Q52,Bpd,Bho] (jl [(16,m [(2,W 3),(3,W 68),(4,C 64),(5,C 80),(11,Y 0 226),(12,Y 1 3),(13,B),(14,C 224),(15,C 240)] [(64,c'2),(80,c'5),(224,[A,A,A,A,O]),(240,[A,A,A,A,O])]),(18,m [(2,W 3),(3,W 68),(4,C 64),(5,C 80),(11,Y 0 226),(12,Y 1 3),(13,B),(14,C 224),(15,C 240)] [(64,c'2),(80,c'5),(224,[A,A,A,A,O]),(240,[A,A,A,A,O])]),(1048586,m [(2,W 3),(3,W 68),(4,C 64),(5,C 80),(11,Y 0 226),(12,Y 1 3),(13,B),(14,C 224),(15,C 240),(66,H)] [(64,c'2),(80,c'5),(224,[A,A,A,A,O]),(240,[A,A,A,A,O])]),(1048593,m [(2,W 3),(3,W 68),(4,C 64),(5,C 80),(11,Y 0 226),(12,Y 1 3),(13,B),(14,C 224),(15,C 240),(105,H)] [(64,c'2),(80,c'5),(224,[A,A,A,A,O]),(240,[A,A,A,A,O])])]) (z [(2,W 3),(3,W 68),(4,C 64),(5,C 80),(11,Y 0 226),(12,Y 1 3),(13,B)] [(64,c'2),(80,c'5)]) [xt 0 [(11,Y 0 226),(12,Y 1 3)]] TB
def Bpf:=fkl func149 (N [J c'2,J c'5,W 3,W 68,W 55,J [D,D],H]) (rh [(14,C 224),(15,B)] [(224,Bjs)]) Sx [Q18,Q52,Bo4,Bo5,Bo9,Q40,Bhj,Bhl,Q19,Bhf,Q93,Q94,Bpe] (jl [(10,m [(3,W 68),(7,C 112),(8,C 128),(12,C 192),(14,C 224),(16,C 256)] [(112,c'2),(128,c'5),(192,[D,D]),(224,Ah7),(256,Bjt)]),(2097158,m [(3,W 68),(7,C 112),(8,C 128),(12,C 192),(14,C 224),(16,C 256)] [(112,c'2),(128,c'5),(192,[D,D]),(224,Ah7),(256,PW)]),(2097169,m [(3,W 68),(7,C 112),(8,C 128),(14,C 224),(16,C 256),(17,Y 0 185),(18,B),(19,B),(20,B)] [(112,c'2),(128,c'5),(224,Att),(256,PW)]),(2097171,m [(7,C 112),(14,C 224),(16,C 256),(21,Y 0 226),(22,Y 1 3)] [(112,c'2),(224,Bve),(256,PW)])]) (z [(3,W 68),(7,C 112),(8,C 128),(14,C 224),(16,C 256),(17,Y 0 185),(18,B)] [(112,c'2),(128,c'5),(224,Att),(256,Bvf)]) [xh 0 [(3,W 68),(7,C 112),(14,C 224),(16,C 256)] [(112,c'2),(224,Ah7),(256,Bjt)]] TC
def Bpg:=fkl func81 (z [(0,C 65536)] [(65536,Dc)]) (ru [(2,C 32)] [(32,PW),(65536,Dc)]) DK [Bhh,Bhi,Q79,Bpf,Ba6,Q72] (U [(1048588,nu [(0,C 65536),(2,C 32),(6,C 96)] [(32,Ah7),(96,Bvg),(65536,Bb7)])]) (su [(0,C 65536),(2,C 32),(3,Y 0 68),(4,B)] [(32,Att),(65536,Bb7)]) [xu 0 [(0,C 65536),(2,C 32),(3,Y 0 68)] [(32,Att),(65536,Bb7)]] IR
def Bph:=fkl func216 (N [W 185]) (rh [(2,C 32)] [(32,[D,D])]) Xc [Q93,Q94] (U []) (z [(0,W 185),(2,C 32),(3,C 48),(4,B)] [(32,[D,D]),(48,[D,D])]) [xh 0 [(2,C 32),(3,C 48)] [(32,[D,D]),(48,[D,D])]] Xe
def Bpi:=fk0 func150 (N [J c'5]) (rh [(2,C 32)] [(32,[D,D])]) Qs [Bph]
def Awn:Sp:=z [(6,C 96),(7,C 112),(8,C 128),(10,Y 0 185),(11,Y 1 143),(12,B)] [(96,CR),(112,[D,D]),(128,Ad4)]
def Axd:SL:=[xh 0 [(6,C 96),(8,C 128),(11,Y 0 143)] [(96,CR),(128,RN)]]
def Awo:Sp:=z [(6,C 96),(7,C 112),(8,C 128),(10,Y 0 185),(11,Y 1 143),(12,B),(13,B),(14,B),(15,B),(16,B)] [(96,CR),(112,[D,D]),(128,Ad4)]
def Axe:SL:=[xh 2 [(6,C 96),(7,C 112),(8,C 128),(10,Y 0 185),(11,Y 1 143),(12,B),(13,B),(14,B),(15,B)] [(96,CR),(112,[D,D]),(128,Ad4)]]
def Bal:=jl [(18,m [(6,C 96),(7,C 112),(8,C 128),(10,Y 0 185),(11,Y 1 143),(12,B),(13,B),(14,B),(15,B)] [(96,CR),(112,[D,D]),(128,Ad4)]),(1048589,m [(6,C 96),(7,C 112),(8,C 128),(10,Y 0 185),(11,Y 1 143),(12,B),(13,B),(14,B),(15,B),(16,B),(66,H)] [(96,CR),(112,[D,D]),(128,Ad4)]),(1048591,m [(6,C 96),(7,C 112),(8,C 128),(10,Y 0 185),(11,Y 1 143),(12,B),(13,B),(14,B),(15,B),(80,H)] [(96,CR),(112,[D,D]),(128,Ad4)])]
def t169:List KP:=[Q56,Q40,Bhl,Q85]
def Bas:LP:=pl [aB Awn Axd PP,aB Awo Axe PQ]
def Ay0:LK f151 Bas 1:=lk0 t169 Bal 2 Awo Axe PQ
def Bkj:LK f151 Bas 0:=lk0 t169 Bal 1 Awn Axd PP (hin:=(aa (Aq Ay0 AP)))
def Bpj:=fk1 func151 (N [J c'2,B,J CR,J [D,D]]) (rh [(8,C 128),(9,B)] [(128,Km)]) Oq t169 Bal Bas (aa (Aq Bkj (Aq Ay0 AP)))
def Bpk:=fkl func152 (N [J c'2,B,B,J CR]) (rh [(8,C 128)] [(128,[D,D,O])]) Qq [Q56,Q93,Q94] (U [(1,m [(1,B),(4,C 64),(7,C 112),(8,C 128),(23,H)] [(64,c'2),(112,CR),(128,[D,D,O])])]) (z [(1,B),(4,C 64),(7,C 112),(8,C 128),(9,C 144),(10,B)] [(64,c'2),(112,CR),(128,[D,D,O]),(144,[D,D,O])]) [xh 0 [(8,C 128),(9,C 144)] [(128,[D,D,O]),(144,[D,D,O])]] YE
def Bpl:=fkj func153 (N [B,B]) (V [(4,H)]) MJ [] (U [(1,jn [(4,H)])])
def Awp:Sp:=su [(0,C 65536),(3,C 48),(4,.one (.ptr 65536 8)),(5,B)] [(48,PW),(65536,Dc)]
def Axf:SL:=[xu 0 [(0,C 65536),(3,C 48),(4,.one (.ptr 65536 8))] [(48,PW),(65536,Dc)]]
def Awq:Sp:=su [(0,C 65536),(3,C 48),(4,.one (.ptr 65536 8)),(7,B)] [(48,PW),(65536,Dc)]
def Axg:SL:=[xu 2 [(3,C 48),(4,.one (.ptr 65536 8))] [(48,PW),(65536,Dc)]]
def Bam:=jl [(16,nu [(0,C 65536),(3,C 48),(4,.one (.ptr 65536 8)),(7,B),(8,B)] [(48,PW),(65536,Dc)]),(19,nu [(0,C 65536),(3,C 48),(4,.one (.ptr 65536 8)),(7,B),(9,C 144)] [(48,PW),(144,Bvh),(65536,Dc)]),(1048589,nu [(0,C 65536),(3,C 48),(4,.one (.ptr 65536 8)),(7,B),(8,B),(91,H)] [(48,PW),(65536,Dc)])]
def t172:List KP:=[Q93,Q94,Bpi,Q79,Q92,Q95,Bpj,Bpk,Bpl]
def Bat:LP:=pl [aB Awp Axf EF,aB Awq Axg EG]
def Bkl:LK f82 Bat 1:=lk0 t172 Bam 2 Awq Axg EG
def Bkk:LK f82 Bat 0:=lk0 t172 Bam 1 Awp Axf EF
def Bpm:=fk1 func82 (z [(0,C 65536),(1,J PW)] [(65536,Dc)]) (nu [] [(65536,Dc)]) Dq t172 Bam Bat (aa (Aq Bkk (Aq Bkl AP)))
def Bpn:=fkj func27 (N [J c'2,J Db,os,B]) (rh [(8,C 128),(9,C 144),(10,B)] [(128,Atv),(144,Atw)]) SA [Q64,Q71,Q78,Boq,Bos,Bo1,Bpg,Bpm] (jl [(13,m [(8,C 128),(9,C 144),(13,C 864)] [(128,Nr),(144,Am0),(864,Atu)]),(18,[(.normal,z [(8,C 128),(9,C 144),(13,C 864)] [(128,Nr),(144,Am0),(864,Atu)]),yh [(8,C 128),(9,C 144),(10,B)] [(128,Atv),(144,Atw)]]),(1048583,m [(8,C 128),(9,C 144),(13,C 864)] [(128,Nr),(144,Am0),(864,Atu)]),(1048587,m [(8,C 128),(9,C 144),(13,C 864)] [(128,Nr),(144,Am0),(864,Atu)])])
def Bpo:=fkl func12 (N [J c'2,J Db,W 9]) (rh [(6,C 96),(7,Y 0 94),(8,B)] [(96,Db)]) UI [Q64,Bpn] (U [(1048589,m [(2,W 9),(3,C 48),(4,C 64),(6,C 96),(9,Y 0 94),(10,B),(12,C 192)] [(48,c'2),(64,Bvi),(96,Bvj),(192,Bvk)])]) (z [(2,W 9),(3,C 48),(4,C 64),(6,C 96),(9,Y 0 94),(10,B)] [(48,c'2),(64,Db),(96,Bb8)]) [xh 0 [(4,C 64),(6,C 96),(9,Y 0 94)] [(64,Db),(96,Bb8)],yh [(6,C 96),(7,Y 0 94),(8,B)] [(96,Bb8)]] Acw
def Q175:=fkj func5 (N [J c'2,W 5,B]) (rh [(6,C 96)] [(96,Db)]) Ml [Q37,Q51,Bpo] (U [(1048578,m [(1,W 5),(2,B),(3,C 48),(6,C 96),(7,C 112)] [(48,c'2),(96,Nr),(112,Db)])])
def Ba7:=fkl func157 (N [B,B,W 3]) (V [(6,H)]) Ba [] (U []) (sp [(0,B),(1,B),(9,W 3),(10,B),(11,B)]) [xt 0 [],rx [(6,H)]] Ki
def Bpp:=fkj func158 (N [J c'3,B]) (V [(4,H)]) IZ [Ba7] (U [(1,jn [(4,H)])])
def Bpq:=fkj func159 (N [J c'2]) (V [(2,H)]) IY [] (U [(1,jn [(2,H)])])
def PS:=fkl func86 (N [J c'2]) (V [(2,B)]) AH [Ba7,Bpp,Bpq] (U [(5,m [(1,C 16),(3,H)] [(16,c'2)]),(9,m [(1,C 16),(3,H),(28,W 73),(29,B),(30,B)] [(16,c'2)])]) (z [(1,C 16),(3,H),(28,W 73),(29,B),(30,B)] [(16,c'2)]) [xh 0 [(1,C 16),(3,H)] [(16,c'2)]] KX
def Bpr:=fkj func160 (N [B,B,B]) (V [(6,H)]) HU [Ba7] (U [(1,jn [(6,H)])])
def Ba8:=fkj func88 (N [J c'2,B,B]) (V [(6,H)]) Ee [PS,Bpr] (U [(1,jn [(6,H)])])
def Bps:=fkj func154 (N [J c'2,J [A,A,A,A,O]]) (V [(4,H)]) ME [Ba8] (U [(1,jn [(4,H)])])
def Bpt:=fk0 func218 (N [B]) (V [(2,H)]) Ks []
def Bhr:=fk0 func162 (N [B,B]) (V [(4,B)]) CX [Bpt]
def Bhs:=fkl func161 (N [W 3]) (V [(2,B)]) KG [] (U []) (sp [(3,B),(6,W 3),(7,B),(8,B)]) [xt 0 [(3,B)],rx [(2,B)]] PK
def Bht:=fk0 func155 (N [J [A,A,A,A,O],J [A,A,A,A,O]]) (V [(4,B)]) GL [Bhr,Bhs]
def Awr:Sp:=z [(2,C 32),(3,C 48),(38,W 3),(39,B),(40,B)] [(32,c'2),(48,c'5)]
def Axh:SL:=[xh 0 [(2,C 32),(3,C 48)] [(32,c'2),(48,c'5)],rx [(4,H)]]
def Aws:Sp:=z [(2,C 32),(3,C 48),(52,W 185),(53,B),(54,B)] [(32,c'2),(48,c'5)]
def Axi:SL:=[xt 2 [],rx [(4,H)]]
def Ban:=U [(13,m [(2,C 32),(3,C 48),(52,W 185),(53,B),(54,B),(77,H)] [(32,c'2),(48,c'5)])]
def t187:List KP:=[PS,Bps,Bht]
def Bau:LP:=pl [aB Awr Axh Kv,aB Aws Axi Kw]
def Bkn:LK f83 Bau 1:=lk0 t187 Ban 2 Aws Axi Kw
def Bkm:LK f83 Bau 0:=lk0 t187 Ban 1 Awr Axh Kv
def TD:=fk1 func83 (N [J c'2,J c'5]) (V [(4,H)]) BG t187 Ban Bau (aa (Aq Bkm (Aq Bkn AP)))
def Bpu:=fkj func28 (N [J c'2,J c'5]) (V [(4,H)]) LA [TD] (U [(1,jn [(4,H)])])
def Asz:=fkj func29 (N [B,J [o,o,A]]) (V [(4,H)]) DX [] (U [(1,jn [(4,H)])])
def Bpv:=fkj func85 (N [B]) (V [(2,H)]) Hn [] (U [(1,jn [(2,H)])])
def Bpw:=fkl func156 (N [W 3,.one (.clo 85 [] [])]) (V [(4,B)]) BO [Bpv] (U []) (sp [(0,W 3),(1,.one (.clo 85 [] [])),(7,B),(8,B)]) [xt 0 [],rx [(4,B)]] BI
def Bpx:=fk0 func84 (N [W 3,.one (.clo 85 [] [])]) (V [(4,H)]) BE [Bpw]
def Bpy:=fk0 func30 (N [W 3]) (V [(2,H)]) Gt [Bpx]
def Bhu:=fkl func33 (N [B,J Kn]) (V [(4,H)]) FG [] (U []) (sp [(0,B),(14,J Bvl),(15,B)]) [xt 0 [],rx [(4,H)]] Kj
def Bpz:=fk0 func32 (z [(0,B),(1,J Kn),(2,C 65536)] [(65536,c'2)]) (ru [(5,H)] [(65536,c'2)]) EC [Bhu]
def Bp0:=fkl func31 (z [(0,W 110),(1,B),(2,.one (.clo 32 [] [(65536,0)]))] [(65536,c'2)]) (ru [(6,H)] [(65536,c'2)]) AG [Bpz] (U []) (su [(2,.one (.clo 32 [] [(65536,0)])),(13,W 110),(14,B),(15,B)] [(65536,c'2)]) [xu 0 [] [(65536,c'2)],ry [(6,H)] [(65536,c'2)]] AV
def Bp1:=fkj func87 (N [B,B,B]) (V [(6,H)]) Cu [] (U [(1,jn [(6,H)])])
def Bhv:=fk0 func89 (N [J [A,A,A],J [A,A,A]]) (V [(4,B)]) Ez [Bhr,Bhs]
def Adn:=fkl func36 (N [J c'2,B,J CR]) (V [(6,H)]) BV [PS,Bp1,Ba8,Bhv] (U [(1,m [(1,B),(3,C 48),(5,C 80),(57,H)] [(48,c'2),(80,CR)]),(6,m [(1,B),(3,C 48),(5,C 80),(59,W 143),(60,B),(61,B),(99,H)] [(48,c'2),(80,CR)])]) (z [(1,B),(3,C 48),(5,C 80),(59,W 143),(60,B),(61,B)] [(48,c'2),(80,CR)]) [xt 0 [],rx [(6,H)]] KW
def Bp2:=fk0 func35 (z [(0,B),(1,J CR),(2,C 65536)] [(65536,c'2)]) (ru [(5,H)] [(65536,c'2)]) ED [Adn]
def Bp3:=fkl func34 (z [(0,W 115),(1,B),(2,.one (.clo 35 [] [(65536,0)]))] [(65536,c'2)]) (ru [(6,H)] [(65536,c'2)]) AI [Bp2] (U []) (su [(2,.one (.clo 35 [] [(65536,0)])),(13,W 115),(14,B),(15,B)] [(65536,c'2)]) [xu 0 [] [(65536,c'2)],ry [(6,H)] [(65536,c'2)]] Bh
def Bhw:=fkj func90 (N [J [A,A]]) (V [(2,H)]) DP [] (U [(1,jn [(2,H)])])
def Bp4:=fkj func163 (N [B]) (V [(2,H)]) Gf [] (U [(1,jn [(2,H)])])
def Ba9:=fkj func91 (N [J [A,A,A,O,A]]) (V [(2,H)]) Ge [Bp4] (U [(3,jn [(2,H)])])
def Bhx:=fkj func164 (N [B,B,B]) (V [(6,B),(7,H)]) Hg [] (U [(1,jn [(0,B),(1,B),(2,B),(14,H)]),(4,jn [(6,B),(7,H)])])
def Bhy:=fk0 func92 (N [B,J [A,A,A]]) (V [(4,H)]) Gr [Bhx]
def As0:=fkj func39 (N [J c'2,J Bp]) (V [(4,H)]) Dy [PS,Bhw,Ba9,Bhy] (U [(1,m [(2,C 32),(3,C 48),(16,H)] [(32,c'2),(48,Bp)]),(3,m [(2,C 32),(3,C 48),(46,H)] [(32,c'2),(48,Bp)]),(5,jn [(4,H)])])
def Bp5:=fk0 func38 (z [(0,B),(1,J Bp),(2,C 65536)] [(65536,c'2)]) (ru [(5,H)] [(65536,c'2)]) EE [As0]
def Bp6:=fkl func37 (z [(0,W 126),(1,B),(2,.one (.clo 38 [] [(65536,0)]))] [(65536,c'2)]) (ru [(6,H)] [(65536,c'2)]) AJ [Bp5] (U []) (su [(2,.one (.clo 38 [] [(65536,0)])),(13,W 126),(14,B),(15,B)] [(65536,c'2)]) [xu 0 [] [(65536,c'2)],ry [(6,H)] [(65536,c'2)]] Bi
def Bp7:=fkj func41 (N [B,J [A]]) (V [(4,H)]) Ij [] (U [(1,jn [(4,H)])])
def Bp8:=fkl func40 (N [W 131,B,.one (.clo 41 [] [])]) (V [(6,H)]) AX [Bp7] (U []) (sp [(2,.one (.clo 41 [] [])),(13,W 131),(14,B),(15,B)]) [xt 0 [],rx [(6,H)]] BM
def Bhz:=fkj func15 (N [J c'2,J Db]) (V [(4,H)]) Et [Bpu,Asz,Bpy,Bp0,Bp3,Bp6,Bp8] (U [(8,jn [(4,H)])])
def Bp9:=fkj func18 (N [J c'2,J [A,O,A,O]]) (V [(4,H)]) FO [] (U [(1,jn [(4,H)])])
def Bqa:=fk0 func17 (z [(0,J [A,O,A,O]),(1,C 65536)] [(65536,c'2)]) (ru [(3,H)] [(65536,c'2)]) KM [Bp9]
def Bqb:=fkl func42 (z [(0,W 51),(1,.one (.clo 17 [] [(65536,0)]))] [(65536,c'2)]) (ru [(4,B)] [(65536,c'2)]) AE [Bqa] (U []) (su [(0,W 51),(1,.one (.clo 17 [] [(65536,0)])),(7,B),(8,B)] [(65536,c'2)]) [xu 0 [] [(65536,c'2)],ry [(4,B)] [(65536,c'2)]] Bl
def Bqc:=fk0 func16 (z [(0,W 51),(1,.one (.clo 17 [] [(65536,0)]))] [(65536,c'2)]) (ru [(4,H)] [(65536,c'2)]) Ar [Bqb]
def Bh0:=fkj func93 (N [J c'5,B]) (V [(4,H)]) JB [] (U [(1,jn [(4,H)])])
def Bh1:=fkj func43 (N [J c'5,B]) (V [(4,H)]) JA [Bh0] (U [(1,jn [(4,H)])])
def Bh2:=fkj func44 (N [J c'5,B]) (V [(4,H)]) Hj [Bh0] (U [(4,jn [(4,H)])])
def As1:=fkj func45 (N [B]) (V [(2,H)]) DR [] (U [(1,jn [(2,H)])])
def Ado:=fkj func95 (N [B,B]) (rh [(4,C 64)] [(64,[D,D])]) DO [] (U [(1,m [(0,B),(1,B),(4,C 64),(10,H)] [(64,[D,D])])])
def Zu:=fk0 func94 (N [J [D,D],J [D,D]]) (rh [(4,C 64)] [(64,[D,D])]) CL []
def Bqd:=fkl func46 (N [W 143]) (rh [(2,C 32)] [(32,[D,D])]) Je [Ado,Zu] (U []) (z [(2,C 32),(3,C 48),(6,W 143),(7,B),(8,B)] [(32,[D,D]),(48,[D,D])]) [xh 0 [(2,C 32),(3,C 48)] [(32,[D,D]),(48,[D,D])]] KY
def Bh3:=fkj func219 (N [B]) (V [(2,H)]) FN [] (U [(1,jn [(2,H)])])
def Bh4:=fkj func165 (N [B,J [A,A,A]]) (V [(4,H)]) FH [Bh3] (U [(1,jn [(4,H)])])
def Bba:=fkj func96 (N [B,J [A,A,A]]) (rh [(4,C 64)] [(64,[D,D])]) Ef [Bh4] (U [(3,m [(3,C 48),(4,C 64),(20,H)] [(48,[A,A,A]),(64,[D,D])]),(5,m [(3,C 48),(4,C 64),(35,H)] [(48,[A,A,A]),(64,[D,D])])])
def Bqe:=fk0 func47 (N [J c'2,J Bp,J [A,O,A,O]]) (rh [(6,C 96)] [(96,[D,D])]) Lu [As0,Bba]
def Bqf:=fkl func98 (N [J c'5]) (V [(2,Y 0 68)]) HV [Bh1] (U []) (z [(1,C 16),(3,Y 0 68),(10,B),(11,B)] [(16,c'5)]) [xt 0 [(3,Y 0 68)]] Kk
def Bqg:=fkl func97 (N [J c'2,J c'5,W 68,B]) (rh [(8,C 128)] [(128,[D,D])]) Lo [TD,Ado,Zu] (U [(7,m [(2,W 68),(3,B),(8,C 128),(9,C 144),(11,C 176),(37,W 185),(38,B),(39,B),(58,H)] [(128,[D,D]),(144,[D,D]),(176,[A,A,A,A,O])])]) (z [(2,W 68),(3,B),(8,C 128),(9,C 144),(37,W 185),(38,B),(39,B)] [(128,[D,D]),(144,[D,D])]) [xh 0 [(8,C 128),(9,C 144)] [(128,[D,D]),(144,[D,D])]] Nk
def Bbb:=fk0 func48 (N [J c'2,J c'5,B]) (rh [(6,C 96)] [(96,[D,D])]) Gg [Bqf,Bqg]
def Bh5:=fkj func19 (N [J c'2,J Db,B,J [A,O,A,O]]) (rh [(8,C 128)] [(128,FQ)]) Ig [Bh1,Bh2,As1,Bqd,Bqe,Bbb] (jl [(12,m [(2,B),(4,C 64),(5,C 80),(8,C 128),(10,C 160),(11,C 176)] [(64,c'2),(80,Db),(128,FQ),(160,Bp),(176,FQ)]),(1048579,m [(2,B),(4,C 64),(5,C 80),(7,C 112),(8,C 128),(9,B),(10,C 160),(11,C 176)] [(64,c'2),(80,Db),(112,[A,O,A,O]),(128,FQ),(160,Bp),(176,FQ)])])
def Q232:=fkl func7 (N [J c'2,J Db,W 51]) (V [(6,Y 0 68)]) DQ [Bhz,Bqc,Bh5] (U []) (z [(2,W 51),(3,C 48),(4,C 64),(7,Y 0 68),(30,B),(31,B)] [(48,c'2),(64,Db)]) [xt 0 [(7,Y 0 68)]] Mb
def Awt:Sp:=z [(2,W 51),(3,C 48),(4,C 64),(7,B)] [(48,c'2),(64,Db)]
def Axj:SL:=[xh 0 [(2,W 51),(3,C 48),(4,C 64)] [(48,c'2),(64,Db)],rx [(6,Y 0 68)]]
def Awu:Sp:=z [(2,W 51),(3,C 48),(4,C 64),(8,Y 0 68),(9,B)] [(48,c'2),(64,Db)]
def Axk:SL:=[xt 2 [(8,Y 0 68)]]
def t233:List KP:=[Q64,Q97,Bhi]
def Bav:LP:=pl [aB Awt Axj RK,aB Awu Axk RL]
def Bkp:LK f8 Bav 1:=lk0 t233 (U []) 2 Awu Axk RL
def Bko:LK f8 Bav 0:=lk0 t233 (U []) 1 Awt Axj RK
def Q233:=fk1 func8 (N [J c'2,J Db,W 51]) (V [(6,Y 0 68)]) Ms t233 (U []) Bav (aa (Aq Bko (Aq Bkp AP)))
def As2:=hq func119 (sp [(0,W 3)]) (V [(2,Y 0 3)]) BY (LI (r:=2) (t:=3) aE ⟨_,Tryz.func119,κ,κ⟩ (tS:=30) (size:=1) (bytes:=Tryz.t3.bytes) κ κ (F_ κ) Am9 Ap7)
def Bbc:=hq func120 (sp [(0,W 4)]) (V [(2,Y 0 4)]) Bg (LI (r:=2) (t:=4) aE ⟨_,Tryz.func120,κ,κ⟩ (tS:=31) (size:=1) (bytes:=Tryz.t4.bytes) κ κ (F_ κ) Ana Ap8)
def Bbd:=hq func121 (sp [(0,W 185)]) (V [(2,Y 0 185)]) BN (LI (r:=2) (t:=185) aE ⟨_,Tryz.func121,κ,κ⟩ (tS:=32) (size:=5) (bytes:=Tryz.t185.bytes) κ κ (F_ κ) Anb Ap9)
def Bh6:=hq func114 (sp [(0,W 110)]) (V [(2,Y 0 110)]) BR (LI (r:=2) (t:=110) aE ⟨_,Tryz.func114,κ,κ⟩ (tS:=38) (size:=41) (bytes:=Tryz.t110.bytes) κ κ (F_ κ) Am5 Ap3)
def Bh7:=hq func116 (sp [(0,W 126)]) (V [(2,Y 0 126)]) Cm (LI (r:=2) (t:=126) aE ⟨_,Tryz.func116,κ,κ⟩ (tS:=40) (size:=14) (bytes:=Tryz.t126.bytes) κ κ (F_ κ) Am7 Ap5)
def Bh8:=hq func117 (sp [(0,W 131)]) (V [(2,Y 0 131)]) Cl (LI (r:=2) (t:=131) aE ⟨_,Tryz.func117,κ,κ⟩ (tS:=41) (size:=1) (bytes:=Tryz.t131.bytes) κ κ (F_ κ) Am8 Ap6)
def Bqh:=hq func122 (sp [(0,W 55)]) (V [(2,Y 0 55)]) EV (LI (r:=2) (t:=55) aE ⟨_,Tryz.func122,κ,κ⟩ (tS:=42) (size:=2) (bytes:=Tryz.t55.bytes) κ κ (F_ κ) Anc Aqa)
def Bh9:=hq func115 (sp [(0,W 115)]) (V [(2,Y 0 115)]) Ck (LI (r:=2) (t:=115) aE ⟨_,Tryz.func115,κ,κ⟩ (tS:=39) (size:=6) (bytes:=Tryz.t115.bytes) κ κ (F_ κ) Am6 Ap4)
def Bqi:=hq func123 (sp [(0,W 143)]) (V [(2,Y 0 143)]) Fk (LI (r:=2) (t:=143) aE ⟨_,Tryz.func123,κ,κ⟩ (tS:=113) (size:=3) (bytes:=Tryz.t143.bytes) κ κ (F_ κ) Ane Aqb)
def Bqj:=fkl func72 (N [J Db]) (rh [(2,C 32)] [(32,Nr)]) Yu [As2,Bbc,Bbd,Bh6,Bh7,Bh8,Bqh,Bh9,Bqi] (U []) (z [(1,C 16),(2,C 32),(54,B),(55,B)] [(16,Nr),(32,Bju)]) [xh 0 [(1,C 16),(2,C 32)] [(16,Nr),(32,Bju)]] UO
def Bqk:=fk0 func171 (N [J c'2]) (V [(2,B),(3,B)]) Ze [PS]
def Awv:Sp:=sp [(0,os),(3,.one (.int .u16)),(7,B),(8,B)]
def Axl:SL:=[xt 0 [(3,.one (.int .u16))]]
def Aww:Sp:=sp [(0,os),(3,.one (.int .u16)),(7,B),(8,B),(18,B)]
def Axm:SL:=[xt 2 [(0,os),(3,.one (.int .u16)),(7,B),(8,B)]]
def Baw:LP:=pl [aB Awv Axl Ry,aB Aww Axm Rz]
def Ay1:LK f311 Baw 1:=lk0 [] (U []) 2 Aww Axm Rz
def Bkq:LK f311 Baw 0:=lk0 [] (U []) 1 Awv Axl Ry (hin:=(aa (Aq Ay1 AP)))
def Bql:=fk1 func311 (N [os]) (V [(2,.one (.int .u16))]) Acq [] (U []) Baw (aa (Aq Bkq (Aq Ay1 AP)))
def Bqm:=fk0 func264 (N [os]) (V [(2,os)]) Ae7 [Bql]
def Bqn:=fk0 func220 (N [os]) (V [(2,os),(3,B)]) Ae6 [Bqm]
def Bqo:=fk0 func172 (N [J c'2,os,B,o1]) [rx [(8,.one .nilp),(9,B)],yh [(8,C 752),(9,B)] [(752,Iy)]] Zf [PS,Bqn]
def Q249:=fkl func227 (z [(0,C 65536),(1,B)] [(65536,Iy)]) (ru [(4,VU)] [(65536,Iy)]) BX [] (U []) (su [(0,C 65536),(1,B),(5,VU),(7,B),(8,B)] [(65536,Iy)]) [xu 0 [(0,C 65536),(1,B),(5,VU)] [(65536,Iy)]] IP
def As3:=fk0 func291 (N [J c'2]) (rh [(2,C 32)] [(32,[D,D])]) He [PS]
def Bqp:=fkj func265 (N [J c'2,J [D,D]]) (V [(4,H)]) UB [As3] (U [(2,jn [(4,H)])])
def Q252:=fk0 func224 (N [H]) (jn []) HY []
def Q253:=fk0 func222 (z [(0,C 65536)] [(65536,Iy)]) (ru [(2,C 32)] [(32,[D,D]),(65536,Iy)]) IJ [Q249,Bqp,Q252]
def Q254:=fk0 func223 (z [(0,C 65536),(1,B)] [(65536,Iy)]) (ru [(4,B)] [(65536,Iy)]) BD [Q249,Q252]
def Q255:=fk0 func225 (z [(0,C 65536)] [(65536,Iy)]) (ru [(2,o4)] [(65536,Iy)]) Fy [Q249,Q252]
def Q256:=fkl func226 (z [(0,C 65536),(1,B)] [(65536,Iy)]) (ru [(4,Y 0 4)] [(65536,Iy)]) IK [Q254] (U []) (su [(5,B),(6,Y 0 4),(16,B),(17,B)] [(65536,Iy)]) [xu 0 [(6,Y 0 4)] [(65536,Iy)]] HT
def Awx:Sp:=su [(0,C 65536),(2,C 32),(3,C 48),(40,B),(41,B)] [(32,Mh),(48,[A]),(65536,Iy)]
def Axn:SL:=[xu 0 [(2,C 32),(3,C 48)] [(32,Mh),(48,[A]),(65536,Iy)]]
def Bg6:=U [(5,nu [(0,C 65536),(2,C 32),(3,C 48)] [(32,Mh),(48,[A]),(65536,Iy)])]
def Bg7:LP:=pl [aB Awx Axn DY]
def t257:KS [(222,Q253.e),(223,Q254.e),(224,Q252.e),(225,Q255.e),(226,Q256.e),(227,Q249.e)]:=(tc Q253.k (tc Q254.k (tc Q252.k (tc Q255.k (tc Q256.k (tc Q249.k tn))))))
def Bkr:LoopOK prog G f173.ntmps (Bg7 0) (Pi (noD 1 (Bo f173)) 0):=lk cx t257 Bg6 1 Awx Axn (rfl:DY=_) κ (an0 κ) λx=>by kernel_rfl
def Bj1:Fe G:=fe f173 (z [(0,C 65536)] [(65536,Iy)]) (ru [(2,C 32),(3,C 48)] [(32,Mh),(48,[A]),(65536,Iy)]) HX
def Bvs:K 173 Bj1:=fkd cx t257 Bg6 Bg7 1 func173 Bnl (λ_ _=>by kernel_rfl) Bni (aa (Aq Bkr AP))
def Bqq:KP:=⟨173,Bj1,Bvs⟩
def Bqr:=fk0 func113 (N [J c'2,os]) (rh [(4,C 64),(5,B)] [(64,Mh)]) Wj [Bqk,Bqo,Bqq]
def Bia:=fk0 func228 (N [B]) (V [(2,B)]) Ls []
def Bqs:=fkj func312 (N [J [D,O,O,O,O],B]) (V [(4,H)]) Rw [] (U [(10,jn [(4,H)])])
def Bqt:=fkj func313 (N [J [D,O,O,O,O],B,H]) (rh [(6,C 96)] [(96,[D,O,O,O,O])]) Yr [] (U [(2,m [(1,B),(2,H),(3,C 48),(6,C 96),(13,H)] [(48,[D,O,O,O,O]),(96,[D,O,O,O,O])])])
def Bqu:=fkl func266 (N [B,J Kn,J [D,O,O,O,O]]) (rh [(6,C 96)] [(96,Kn)]) Wi [Bqs,Bqt] (U []) (z [(0,B),(4,C 64),(5,C 80),(6,C 96),(9,B)] [(64,Kn),(80,[D,O,O,O,O]),(96,Kn)]) [xh 0 [(4,C 64),(6,C 96)] [(64,Kn),(96,Kn)]] Ts
def Bqv:=fk0 func229 (N [B,J Kn,J [D,O,O,O,O]]) (rh [(6,C 96),(7,B)] [(96,Kn)]) Wh [Bhu,Bqu]
def Bqw:=fk0 func267 (N [J c'2,.one cf]) (V [(4,B)]) Zg []
def Bqx:=fkj func230 (N [J c'2,J [A],.one cf]) (rh [(6,C 96)] [(96,[A])]) Acu [PS,Bqw] (U [(4,m [(2,.one cf),(3,C 48),(4,C 64),(6,C 96),(7,B),(22,H)] [(48,c'2),(64,[A]),(96,[A])])])
def Bqy:=fkl func174 (z [(0,C 65536)] [(65536,Atx)]) [ry [] [(65536,Atx)],(.normal,su [] [(65536,BK)])] Ie [Bia,Bqv,Bqx] (U []) (su [(0,C 65536),(33,W 53),(34,B),(35,B)] [(65536,BK)]) [xu 0 [] [(65536,BK)]] Hq
def Ahy:=fk0 func290 (N [J [D,D],J [D,D]]) (rh [(4,C 64)] [(64,[D,D])]) Gn []
def Q268:=fk0 func342 (N [J [D,D],B,B]) (V [(6,H)]) EX [Ado,Ahy]
def Bib:=fkl func314 (N [W 143,B,J [D,D]]) (V [(6,Y 0 143),(7,H)]) Rv [Q268] (U []) (z [(1,B),(5,C 80),(8,Y 0 143),(11,W 143),(12,B),(13,B)] [(80,[D,D])]) [xt 0 [(8,Y 0 143)],rx [(6,Y 0 143),(7,H)]] UM
def Bqz:=fk0 func268 (N [J c'2,B,J CR]) (rh [(6,C 96),(7,B)] [(96,Km)]) Wf [Adn,Bib]
def Bbe:=fk0 func355 (N [o4]) (V [(2,B)]) EW []
def Bbf:=fk0 func356 (N [o4]) (V [(2,B)]) Fb []
def Bq0:=fkj func315 (N [B,o4]) (V [(4,B)]) RZ [Bbe,Bh3,Bbf] (U [(2,jn [(5,B),(19,H)])])
def Bq1:=fkj func316 (N [H,H,J [A,A,A,A]]) (V [(6,B)]) Nc [] (jl [(5,m [(1,H),(5,C 80),(7,B)] [(80,[A,A,A,A])])])
def Bq2:=fk0 func269 (N [B,J [D,O,O,O,O]]) (rh [(4,C 64)] [(64,[A,A,A])]) QP [Bq0,Bq1]
def Bq3:=fkj func270 (N [J c'2,B,J CR,J [A,A,A]]) (rh [(8,C 128),(9,B)] [(128,Km)]) Ti [Adn,Bh4,Bba,Bib] (jl [(8,m [(6,C 96),(7,C 112),(8,C 128),(10,B)] [(96,Km),(112,[A,A,A]),(128,RN)]),(10,m [(6,C 96),(7,C 112),(8,C 128),(10,B)] [(96,Km),(112,[A,A,A]),(128,RN)]),(1048581,m [(6,C 96),(7,C 112),(8,C 128),(10,B),(54,H)] [(96,Km),(112,[A,A,A]),(128,RN)])])
def Bq4:=fk0 func231 (z [(0,C 65536),(1,B)] [(65536,BK)]) [ry [] [(65536,BK)],(.normal,su [] [(65536,BK)])] GF [Bqz,Bq2,Bba,Bq3]
def Bic:=fkj func232 (N [B]) (V [(2,H)]) Jd [] (U [(1,jn [(2,H)])])
def Bid:=fkj func317 (N [J c'2,B,J Bp]) (V [(6,H)]) PD [As0] (U [(1,jn [(6,H)])])
def As4:=fk0 func358 (N [B]) (V [(2,B)]) Mk []
def Bie:=fk0 func357 (N [J [A,A,A,O,A]]) (rh [(2,C 32)] [(32,[A,A,A,O,A])]) PC [As4]
def Bq5:=fk0 func318 (N [J [A,A,A,O,A]]) (rh [(2,C 32)] [(32,[A,A,A,O,A])]) Acs [Ba9,Bie,As4]
def Bq6:=fkj func319 (N [J [A,A,A]]) (rh [(2,C 32)] [(32,[A,A,A])]) Yw [] (U [(1,m [(1,C 16),(2,C 32),(20,H)] [(16,[A,A,A]),(32,[A,A,A])])])
def Bq7:=fkj func359 (N [J c'3,J [A,A,A,O,A]]) (V [(4,H)]) Acr [] (U [(1,jn [(4,H)])])
def Bq8:=fk0 func360 (N [J c'3,J [A,A,A]]) (V [(4,H)]) Yv []
def Bif:=fk0 func320 (N [J c'3,J Bp,B]) (rh [(6,C 96),(7,B)] [(96,Bp)]) Nf [Bq7,Bq8]
def Bq9:=fk0 func271 (N [J c'2,B,J Bp]) (rh [(6,C 96),(7,B),(8,B)] [(96,Bp)]) Wo [Bid,Bq5,Bq6,Bif]
def Bra:=fkj func321 (N [J c'2,J [A,O,A,O]]) (V [(4,H)]) Pz [] (U [(1,jn [(4,H)])])
def Brb:=fkj func361 (z [(0,C 65536),(1,o4)] [(65536,FR)]) (nu [] [(65536,FR)]) HR [] (jl [(4,nu [(0,C 65536),(1,o4)] [(65536,FR)])])
def Brc:=fkj func415 (N [B,J [A,A,A],J [A,O,A,O],B]) (rh [(8,C 128),(9,B),(10,H)] [(128,[A,A,A])]) Yx [Bhy,Bhx] (U [(4,m [(0,B),(3,B),(5,C 80),(6,C 96),(8,C 128),(12,H),(40,H)] [(80,[A,A,A]),(96,[A,O,A,O]),(128,[A,A,A])]),(6,m [(0,B),(3,B),(5,C 80),(6,C 96),(8,C 128),(53,H)] [(80,[A,A,A]),(96,[A,O,A,O]),(128,[A,A,A])])])
def Big:=fk0 func389 (z [(0,C 65536),(1,B)] [(65536,FR)]) (ru [(4,H)] [(65536,FR)]) CO [Brc]
def Brd:=fkj func362 (z [(0,C 65536)] [(65536,FR)]) (ru [(2,H)] [(65536,FR)]) Hi [Big] (U [(1,nu [(0,C 65536),(17,H)] [(65536,FR)]),(4,nu [(0,C 65536),(3,H),(37,H)] [(65536,FR)]),(6,nu [(0,C 65536),(48,H)] [(65536,FR)])])
def Bbg:=fk0 func323 (N [.one (.rp 371 0)]) (rh [(2,C 32)] [(32,c'3)]) Cw []
def Bih:=fk0 func416 (N [J [A,A,A,O,A],B]) (rh [(4,C 64)] [(64,[A,A,A,O,A])]) KK []
def Bre:=fk0 func417 (N [J [A,A,A,O,A],B]) (rh [(4,C 64),(5,B)] [(64,[A,A,A,O,A])]) VA [As4]
def Brf:=fk0 func418 (N [J [A,A,A,O,A]]) (rh [(2,C 32),(3,B)] [(32,[A,A,A,O,A])]) Zd [Bih]
def Bii:=fkj func390 (N [J c'3,J [A,A,A,O,A],B,H,H]) (rh [(10,C 160),(11,B)] [(160,[A,A,A,O,A])]) Vz [Ba9,Bie,Bih,Bre,Brf,As4] (jl [(4,m [(2,B),(3,H),(4,H),(5,C 80),(6,C 96),(10,C 160)] [(80,c'3),(96,[A,A,A,O,A]),(160,[A,A,A,O,A])]),(1048585,m [(2,B),(3,H),(5,C 80),(6,C 96),(10,C 160),(12,H),(30,H)] [(80,c'3),(96,[A,A,A,O,A]),(160,[A,A,A,O,A])]),(1048588,m [(3,H),(5,C 80),(6,C 96),(10,C 160),(12,H),(44,H)] [(80,c'3),(96,[A,A,A,O,A]),(160,[A,A,A,O,A])]),(1048590,m [(3,H),(5,C 80),(6,C 96),(10,C 160),(12,H),(53,H)] [(80,c'3),(96,[A,A,A,O,A]),(160,[A,A,A,O,A])]),(1048597,m [(6,C 96),(10,C 160),(95,H)] [(96,[A,A,A,O,A]),(160,[A,A,A,O,A])])])
def Brg:=fkj func363 (z [(0,C 65536)] [(65536,FR)]) (nu [] [(65536,FR)]) HQ [Bbg,Bii] (jl [(7,nu [(0,C 65536)] [(65536,FR)])])
def Bij:=fkj func419 (N [B,J [A,A],B]) (V [(6,H)]) Kh [Bhw] (U [(1,jn [(6,H)])])
def Bik:=fkj func411 (N [o4]) (V [(2,B)]) Tj [] (jl [(5,jn [(0,o4),(2,B)]),(8,jn [(0,o4),(2,B)])])
def Brh:=fkj func425 (N [B,J [A,A],B,J [D,D,D]]) (rh [(8,C 128)] [(128,Jt)]) RX [Ahy,Q268,Bbe,Bik] (jl [(9,m [(2,B),(8,C 128),(11,o4),(12,C 192)] [(128,Jt),(192,Jt)])])
def Bri:=fkj func426 (N [J Jt]) (rh [(2,C 32),(3,C 48)] [(32,Jt),(48,Jt)]) Ku [] (U [(1,m [(1,C 16),(2,C 32),(3,C 48)] [(16,Jt),(32,Jt),(48,Jt)]),(3,m [(1,C 16),(2,C 32),(3,C 48)] [(16,Jt),(32,Jt),(48,Jt)])])
def Brj:=fkj func431 (N [J Jt]) (V [(2,B)]) KH [] (U [(1,m [(1,C 16),(3,H)] [(16,Jt)])])
def Bbh:=fk0 func432 (N [B]) (rh [(2,C 32)] [(32,[A,A,A])]) CY []
def Brk:=fk0 func427 (N [J Jt]) (rh [(2,C 32)] [(32,[A,A,A])]) Kt [Brj,Bbh]
def Bil:=fk0 func433 (N [B,H,B,B,H,B]) (V [(12,B)]) KJ []
def Bim:=fkj func429 (N [J Jt]) (rh [(2,C 32)] [(32,[A,A,A])]) FM [Bil,Bbh] (U [(1,m [(1,C 16),(2,C 32),(3,H)] [(16,Jt),(32,[A,A,A])])])
def Brl:=fkj func428 (N [J Jt]) (rh [(2,C 32)] [(32,[A,A,A])]) KI [Bil,Bbh,Bim] (U [(1,m [(1,C 16),(2,C 32),(3,H)] [(16,Jt),(32,[A,A,A])])])
def Bin:=fkj func420 (N [B,J [A,A],B,J [D,D,D]]) (rh [(8,C 128),(9,B)] [(128,[A,A,A])]) Kg [Brh,Bri,Brk,Brl,Bim] (U [(3,m [(8,C 128),(9,B)] [(128,[A,A,A])])])
def Brm:=fk0 func391 (N [B,J [A,A],B,J [D,D,D]]) (rh [(8,C 128)] [(128,[A,A,A])]) Px [Bij,Bin]
def Brn:=fk0 func392 (N [B,J [A,A],B,J [D,D,D]]) (rh [(8,C 128)] [(128,[A,A])]) RW [Bij,Bin]
def Bro:=fk0 func393 (N [J c'2,B,B,B]) (V [(8,B)]) Acv [PS]
def Brp:=fk0 func364 (z [(0,C 65536),(1,J [D,D])] [(65536,FR)]) [ry [] [(65536,FR)],(.normal,su [] [(65536,FR)])] Hh [Brm,Brn,Bbg,Bii,Big,Bro]
def Brq:=fkj func322 (z [(0,C 65536),(1,o4),(2,J [D,D])] [(65536,FR)]) [ry [] [(65536,FR)],(.normal,su [] [(65536,FR)])] IM [Brb,Brd,Brg,Brp] (jl [(7,nu [(0,C 65536),(5,C 80)] [(80,[D,D]),(65536,FR)]),(1048578,nu [(0,C 65536),(5,C 80),(20,H)] [(80,[D,D]),(65536,FR)]),(1048579,nu [(0,C 65536),(5,C 80),(35,H)] [(80,[D,D]),(65536,FR)]),(1048584,nu [] [(65536,FR)])])
def Brr:=fkj func272 (N [J c'2,B,J Bp,J [A,O,A,O],o4,J [D,D]]) (rh [(12,C 192),(13,B),(14,B)] [(192,Bp)]) Yy [Bid,Bra,Brq,Bbg,Bif] (U [(6,m [(8,C 128),(12,C 192),(15,C 592)] [(128,Bp),(192,Bp),(592,FR)])])
def Brs:=fkj func233 (z [(0,C 65536),(1,B),(2,B)] [(65536,BK)]) [ry [] [(65536,BK)],(.normal,su [] [(65536,BK)])] HO [Bq9,Bbb,Brr] (jl [(6,nu [(0,C 65536),(1,B),(6,C 96)] [(96,[D,D]),(65536,BK)])])
def Brt:=fkj func394 (N [B,B,B]) (V [(6,H)]) Hm [] (U [(1,jn [(6,H)])])
def Bio:=fkj func365 (N [J c'2,J [A,A,A,A,A]]) (V [(4,H)]) PJ [PS,Ba8,Brt] (jm [8,10,12,14,17] (jn [(4,H)]) (U [(4,m [(2,C 32),(3,C 48),(5,H),(6,H)] [(32,c'2),(48,[A,A,A,A,A])])]))
def Bip:=fk0 func331 (N [J c'5]) (rh [(2,C 32)] [(32,c'4)]) VC [As2,Bbc,Bbd]
def Bru:=fkl func367 (N [W 185,J [A,A,A,A,O],.one (.clo 155 [] [])]) (V [(6,B),(7,H)]) Bt [Bht] (U [(8,jn [(6,B),(7,H)])]) (z [(0,W 185),(2,.one (.clo 155 [] [])),(4,C 64),(8,B),(9,B),(10,B)] [(64,[A,A,A,A,O])]) [xh 0 [(0,W 185),(2,.one (.clo 155 [] [])),(4,C 64),(8,B),(9,B)] [(64,[A,A,A,A,O])]] Bk
def Biq:=fk0 func325 (N [J c'5,B,B]) (V [(6,B),(7,H)]) Xb [Bru]
def Brv:=hq func395 (sp [(0,Y 0 185),(1,B),(2,Y 1 185)]) (V [(6,Y 0 185)]) Ev (Aei (r:=6) (t:=185) aE ⟨_,Tryz.func395,κ,κ⟩ (by intro h;cases h) (λ_=>rfl) (Aeh))
def Brw:=hq func396 (sp [(0,Y 0 185),(1,B),(2,B)]) (V [(6,Y 0 185)]) Eu (Ani (r:=6) (t:=185) aE ⟨_,Tryz.func396,κ,κ⟩ (by intro h;cases h) (λ_=>rfl) (Ad9))
def Brx:=fk0 func366 (z [(0,C 65536),(1,J [A,A,A,A,A])] [(65536,c'4)]) (nu [] [(65536,c'4)]) Zi [Biq,Brv,Brw]
def Bir:=fk0 func324 (N [J c'2,J c'5,J [A,A,A,A,A]]) (rh [(6,C 96),(7,B)] [(96,c'4)]) VB [TD,Bio,Bip,Brx]
def Bis:=fkj func326 (N [J c'2,J c'5]) (V [(4,H)]) Xa [TD] (U [(1,jn [(4,H)])])
def Awy:Sp:=sp [(0,os),(3,o1),(7,B),(8,B)]
def Axo:SL:=[xt 0 [(3,o1)]]
def Awz:Sp:=sp [(0,os),(3,o1),(7,B),(8,B),(16,B)]
def Axp:SL:=[xt 2 [(0,os),(3,o1),(7,B),(8,B)]]
def Bax:LP:=pl [aB Awy Axo Tt,aB Awz Axp Tu]
def Ay2:LK f368 Bax 1:=lk0 [] (U []) 2 Awz Axp Tu
def Bks:LK f368 Bax 0:=lk0 [] (U []) 1 Awy Axo Tt (hin:=(aa (Aq Ay2 AP)))
def Bry:=fk1 func368 (N [os]) (V [(2,o1)]) Ae8 [] (U []) Bax (aa (Aq Bks (Aq Ay2 AP)))
def Bit:=fk0 func327 (N [J c'2,J [A,A,A,A,A]]) (V [(4,os),(5,B)]) OA [Bio,Bry]
def Brz:=fk0 func328 (N [J [o,o,A]]) (V [(2,os)]) UJ []
def Bbi:=fkj func369 (N [B,J [o,o,A],B,B]) (V [(8,B)]) MM [Asz] (U [(3,jn [(3,B),(14,H)])])
def Biu:=fk0 func329 (N [B,J [o,o,A],B,os,B]) (rh [(10,C 160),(11,B),(12,B)] [(160,[o,o,A])]) Rx [Bbi]
def Br0:=fk0 func397 (z [(0,B),(1,B),(2,C 65536),(3,C 65537)] [(65536,[P 0 226]),(65537,[A])]) [(.normal,⟨[],[(65536,[P 0 226]),(65537,[A])],[65536,65537]⟩)] Jb []
def Br1:=fk0 func398 (N [H]) (V [(2,B)]) NV []
def Br2:=fk0 func399 (z [(0,B),(1,B),(2,B),(3,C 65536),(4,C 65537)] [(65536,[P 0 226]),(65537,[A,A,A,A,O])]) [(.normal,⟨[],[(65536,[P 0 226]),(65537,[A,A,A,A,O])],[65536,65537]⟩)] Jc []
def Aw0:Sp:=z [(3,C 48),(5,C 80),(17,B),(18,B)] [(48,c'5),(80,[P 0 226])]
def Axq:SL:=[xh 0 [(3,C 48),(5,C 80)] [(48,c'5),(80,[P 0 226])]]
def Aw1:Sp:=z [(5,C 80),(47,W 185),(48,B),(49,B)] [(80,[P 0 226])]
def Axr:SL:=[xh 2 [(5,C 80)] [(80,[P 0 226])]]
def t335:List KP:=[TD,Br0,Br1,Br2]
def Bay:LP:=pl [aB Aw0 Axq Nn,aB Aw1 Axr Np]
def Bku:LK f370 Bay 1:=lk0 t335 (U []) 2 Aw1 Axr Np
def Bkt:LK f370 Bay 0:=lk0 t335 (U []) 1 Aw0 Axq Nn
def Br3:=fk1 func370 (N [J c'2,J c'5]) (V [(4,Y 0 226)]) Wm t335 (U []) Bay (aa (Aq Bkt (Aq Bku AP)))
def Br4:=hq func371 (z [(0,C 65536),(1,os)] [(65536,Bb9)]) (ru [(4,B),(5,.one .nili)] [(65536,Bb9)]) HS (Bg4 (tb:=402) (te:=5) aE ⟨_,Tryz.func371,κ,κ⟩ (by intro h;cases h) (λ_=>rfl) κ (r0:=4) (r1:=5) τ (ofB:=λb=>(b.toNat:Int)) (λ_=>rfl) (λb w a0 v ha hb n xs ho hne s h=>Arh b w a0 v ha hb n xs ho hne s h))
def Br5:=fk0 func402 (z [(0,C 65536),(1,C 65537)] [(65536,[o,o,A]),(65537,[A])]) [(.normal,⟨[],[(65536,[o,o,A]),(65537,[A])],[65536,65537]⟩)] UK []
def Br6:=fk0 func401 (z [(0,B),(1,J [o,o,A]),(2,B),(3,B),(4,.one (.clo 402 [] [(65536,0)]))] [(65536,[A])]) (ru [(10,C 160),(11,B),(12,B)] [(160,[o,o,A]),(65536,[A])]) JH [Bbi,Br5]
def Br7:=fk0 func372 (N [B,J [o,o,A],B,B]) (rh [(8,C 128),(9,B),(10,B)] [(128,[o,o,A])]) YA [Br6]
def Br8:=hq func373 (z [(0,C 65536)] [(65536,Bb9)]) (ru [(2,os)] [(65536,[.np 65536 402,Z 5])]) KV (Bdu (tb:=402) (te:=5) aE ⟨_,Tryz.func373,κ,κ⟩ (by intro h;cases h) κ (r0:=2) (λ_=>rfl) (λb w a0 g0 cap cur l h0 hb hg hn hc h63 hx=>Ard b w a0 g0 cap cur l h0 hb hg hn hc h63 hx))
def Br9:=fk0 func403 (z [(0,C 65536),(1,C 65537)] [(65536,[o,o,A]),(65537,[A])]) [(.normal,⟨[],[(65536,[o,o,A]),(65537,[A])],[65536,65537]⟩)] Tr []
def Bsa:=fk0 func401 (z [(0,B),(1,J [o,o,A]),(2,B),(3,B),(4,.one (.clo 403 [] [(65536,0)]))] [(65536,[A])]) (ru [(10,C 160),(11,B),(12,B)] [(160,[o,o,A]),(65536,[A])]) IN [Bbi,Br9]
def Bsb:=fk0 func374 (N [B,J [o,o,A],B,B]) (rh [(8,C 128),(9,B),(10,B)] [(128,[o,o,A])]) Wr [Bsa]
def Bsc:=fkl func330 (N [J c'2,J [o,o,A],J c'5,B]) (rh [(8,C 128),(9,B),(10,B)] [(128,[o,o,A])]) Yt [Asz,TD,Br3,Bit,Br4,Br7,Br8,Biu,Bsb] (jl [(15,m [(3,B),(4,C 64),(5,C 80),(8,C 128),(16,B),(17,B)] [(64,c'2),(80,[o,o,A]),(128,[o,o,A])])]) (z [(3,B),(4,C 64),(5,C 80),(8,C 128),(11,C 176),(36,Y 0 226),(37,B),(38,B)] [(64,c'2),(80,[o,o,A]),(128,[o,o,A]),(176,[.np 176 402,P 1 5])]) [xh 0 [(3,B),(4,C 64),(5,C 80),(8,C 128),(11,C 176)] [(64,c'2),(80,[o,o,A]),(128,[o,o,A]),(176,[.np 176 402,P 0 5])]] UN
def Bsd:=fkj func273 (N [J c'2,J [o,o,A],J c'5,J [A,A,A,A,A],B]) (rh [(10,C 160),(11,C 176),(12,B),(13,B)] [(160,[o,o,A]),(176,c'4)]) Zh [Bir,Asz,Biq,Bis,Bit,Brz,Biu,Bsc,Bip] (jl [(12,m [(4,B),(6,C 96),(7,C 112),(10,C 160),(11,C 176),(14,C 224),(15,B)] [(96,[o,o,A]),(112,c'5),(160,[o,o,A]),(176,c'4),(224,c'6)]),(1048581,m [(4,B),(5,C 80),(6,C 96),(7,C 112),(8,C 128),(10,C 160),(11,C 176),(14,C 224),(63,H)] [(80,c'2),(96,[o,o,A]),(112,c'5),(128,[A,A,A,A,A]),(160,[o,o,A]),(176,c'4),(224,c'6)])])
def Bbj:=fkl func234 (z [(0,C 65536),(1,W 226)] [(65536,BK)]) [ry [] [(65536,BK)],(.normal,su [] [(65536,BK)])] BZ [Bsd] (U []) (su [(0,C 65536),(10,W 226),(11,B),(12,B)] [(65536,BK)]) [xu 0 [] [(65536,BK)],ry [] [(65536,BK)]] GJ
def Bse:=fkl func175 (z [(0,C 65536)] [(65536,BK)]) (nu [] [(65536,BK)]) Ic [As1,Bq4,Bic,Brs,Bbj] (jl [(12,nu [(0,C 65536),(2,Y 0 226),(3,B),(5,H),(11,W 3),(12,B),(13,B)] [(65536,ZN)]),(1048582,nu [(0,C 65536),(2,Y 0 226),(3,B),(11,W 3),(12,B),(13,B)] [(65536,ZN)]),(1048585,nu [(0,C 65536),(2,Y 0 226),(3,B),(11,W 3),(12,B),(13,B)] [(65536,ZN)]),(1048587,nu [(0,C 65536),(2,Y 0 226),(3,B),(11,W 3),(12,B),(13,B),(61,H)] [(65536,ZN)]),(1048590,nu [] [(65536,BK)])]) (su [(0,C 65536),(2,Y 0 226),(11,W 3),(12,B),(13,B)] [(65536,ZN)]) [xu 0 [(0,C 65536),(2,Y 0 226)] [(65536,ZN)]] Hp
def Bsf:=fkj func332 (N [J c'2,B,J CR]) (V [(6,H)]) Wg [Adn] (U [(1,jn [(6,H)])])
def Bsg:=fkj func333 (N [J c'2,J Bp,J [A,O,A,O]]) (V [(6,H)]) Wp [As0] (U [(1,jn [(6,H)])])
def Bsh:=fkl func274 (N [.one (.rp 192 0)]) (V [(2,Y 0 4)]) Ib [As1,Bsf,Bic,Bsg] (U [(5,jn [(0,.one (.rp 192 0)),(3,Y 0 4),(18,W 3),(19,B),(20,B)])]) (sp [(0,.one (.rp 192 0)),(3,Y 0 4),(18,W 3),(19,B),(20,B)]) [xt 0 [(3,Y 0 4)]] Ho
def Bsi:=fk0 func375 (N [J RO,B]) (V [(4,H)]) Ci []
def Bsj:=fkl func377 (N [J c'5]) (V [(2,H)]) Tp [] (U []) (z [(1,C 16),(6,W 3),(7,B),(8,B)] [(16,c'5)]) [xt 0 [],rx [(2,H)]] Wv
def Bsk:=fk0 func378 (N [J RO,B]) (V [(4,Y 0 226)]) CD []
def Bsl:=fk0 func376 (N [H,B,Y 0 226]) (V [(6,Y 0 226),(7,B)]) Es []
def Bsm:=fkj func334 (N [J RO,B]) (V [(4,Y 0 226),(5,B)]) PA [Bsi,Bsj,Bsk,Bsl] (U [(2,m [(1,B),(2,C 32),(6,C 96),(7,H),(17,H)] [(32,RO),(96,c'5)]),(4,m [(1,B),(2,C 32),(6,C 96),(7,H),(31,H)] [(32,RO),(96,c'5)]),(5,m [(1,B),(2,C 32),(6,C 96),(7,H),(31,H)] [(32,RO),(96,c'5)]),(7,m [(1,B),(2,C 32),(6,C 96),(7,H),(46,H)] [(32,RO),(96,c'5)]),(9,m [(1,B),(2,C 32),(6,C 96),(7,H),(60,H)] [(32,RO),(96,c'5)]),(11,m [(1,B),(2,C 32),(6,C 96),(7,H),(69,H)] [(32,RO),(96,c'5)]),(13,m [(1,B),(2,C 32),(6,C 96),(7,H),(83,H)] [(32,RO),(96,c'5)]),(15,m [(1,B),(2,C 32),(6,C 96),(102,H)] [(32,RO),(96,c'5)]),(17,m [(2,C 32),(122,H)] [(32,RO)])])
def Bsn:=fk0 func275 (N [J c'2,J c'5,J [A,A],W 4]) (V [(8,Y 0 226),(9,B)]) Yz [TD,Bsm]
def Bso:=fkl func335 (N [J c'5,B]) (V [(4,H)]) To [] (U []) (sp [(1,B),(8,W 185),(9,B),(10,B)]) [xt 0 [],rx [(4,H)]] QS
def Bsp:=fkl func276 (N [J c'2,J c'5,W 4]) (V [(6,Y 0 226)]) Zj [TD,Bso] (jl [(13,m [(2,W 4),(4,C 64),(7,Y 0 226),(8,B),(24,W 3),(25,B),(26,B)] [(64,c'5)]),(1048583,m [(2,W 4),(4,C 64),(7,Y 0 226),(8,B),(9,B),(10,H),(24,W 3),(25,B),(26,B)] [(64,c'5)]),(1048584,m [(2,W 4),(4,C 64),(7,Y 0 226),(8,B),(10,H),(24,W 3),(25,B),(26,B),(57,H)] [(64,c'5)])]) (z [(2,W 4),(4,C 64),(7,Y 0 226),(24,W 3),(25,B),(26,B)] [(64,c'5)]) [xt 0 [(7,Y 0 226)]] Wu
def Bsq:=fkj func277 (N [B,B]) (V [(4,H)]) UE [] (U [(1,jn [(4,H)])])
def Bsr:=fk0 func278 (N []) (rh [(0,C 0)] [(0,Km)]) Zb []
def Bss:=fk0 func279 (N [J c'2,B,J CR]) (rh [(6,C 96),(7,B)] [(96,Km)]) Ux [Adn]
def Bst:=fkl func235 (z [(0,C 65536)] [(65536,BK)]) [ry [] [(65536,BK)],(.normal,su [] [(65536,BK)])] GG [Bsh,Bsn,Bbj,Bsp,Bsq,Bsr,Bss] (jl [(7,nu [(0,C 65536),(2,C 32),(3,C 48),(4,Y 0 4),(6,B)] [(32,c'5),(48,[A,A]),(65536,ZN)]),(9,nu [(0,C 65536),(2,C 32),(3,C 48),(6,B)] [(32,c'5),(48,[A,A]),(65536,BK)]),(1048579,nu [(0,C 65536),(2,C 32),(3,C 48),(4,Y 0 4),(6,B)] [(32,c'5),(48,[A,A]),(65536,ZN)]),(1048583,nu [(0,C 65536),(2,C 32),(3,C 48),(6,B)] [(32,c'5),(48,[A,A]),(65536,BK)]),(1048590,nu [(0,C 65536),(2,C 32),(3,C 48),(6,B),(7,B),(79,W 3),(80,B),(81,B),(117,H)] [(32,c'5),(48,[A,A]),(65536,BK)])]) (su [(0,C 65536),(2,C 32),(3,C 48),(6,B),(79,W 3),(80,B),(81,B)] [(32,c'5),(48,[A,A]),(65536,BK)]) [xu 0 [] [(65536,BK)]] FY
def Bsu:=fkj func176 (z [(0,C 65536)] [(65536,BK)]) (nu [] [(65536,BK)]) EU [Bst] (U [(1,nu [] [(65536,BK)])])
def Bsv:=fkl func237 (N [.one (.rp 192 0)]) (V [(2,Y 0 68)]) HP [Bh2,Bh5] (U [(7,jn [(0,.one (.rp 192 0)),(3,Y 0 68),(14,B),(15,B)])]) (sp [(0,.one (.rp 192 0)),(3,Y 0 68),(14,B),(15,B)]) [xt 0 [(3,Y 0 68)]] GI
def Biv:=fk0 func337 (N [J c'2,J FQ]) (rh [(4,C 64)] [(64,[D,D])]) Nd [As3,Ahy]
def Biw:=fk0 func336 (N [J [D,D],J [D,D]]) (rh [(4,C 64)] [(64,[D,D])]) MD []
def Bsw:=fkl func280 (N [J c'2,W 68,W 55]) (rh [(6,C 96),(7,B)] [(96,Ad3)]) UC [PS,Biv,Biw,Zu] (U []) (z [(2,W 55),(3,C 48),(6,C 96),(8,C 128),(32,W 68),(33,B),(34,B)] [(48,c'2),(96,Ad3),(128,Ats)]) [xh 0 [(6,C 96),(8,C 128)] [(96,Ad3),(128,Ats)]] Sc
def Bsx:=fkj func338 (N [B]) (V [(2,H)]) NB [] (U [(1,jn [(2,H)])])
def Bsy:=fkl func156 (N [W 3,.one (.clo 338 [] [])]) (V [(4,B)]) Cz [Bsx] (U []) (sp [(0,W 3),(1,.one (.clo 338 [] [])),(7,B),(8,B)]) [xt 0 [],rx [(4,B)]] Cs
def Bsz:=fk0 func84 (N [W 3,.one (.clo 338 [] [])]) (V [(4,H)]) Cn [Bsy]
def Bs0:=fkj func281 (N [J c'5,W 3]) (V [(4,H)]) Py [Bsz] (U [(1,jn [(4,H)])])
def Bs1:=fk0 func282 (N [J c'5]) (rh [(2,C 32)] [(32,c'4)]) RY [As2,Bbc,Bbd]
def Bs2:=fk0 func283 (N [B]) (rh [(2,C 32)] [(32,Ad3)]) UA []
def Aw2:Sp:=z [(3,C 48),(4,C 64),(7,C 112),(25,W 68),(26,B),(27,B)] [(48,c'2),(64,c'5),(112,[D,D])]
def Axs:SL:=[xh 0 [(4,C 64),(7,C 112)] [(64,c'5),(112,[D,D])]]
def Aw3:Sp:=z [(7,C 112),(10,Y 0 226),(38,W 185),(39,B),(40,B)] [(112,[D,D])]
def Axt:SL:=[xt 2 [(10,Y 0 226)]]
def t374:List KP:=[TD,Biv,Zu,Q268]
def Baz:LP:=pl [aB Aw2 Axs LZ,aB Aw3 Axt Ma]
def Bkw:LK f285 Baz 1:=lk0 t374 (U []) 2 Aw3 Axt Ma
def Bkv:LK f285 Baz 0:=lk0 t374 (U []) 1 Aw2 Axs LZ
def Bs3:=fk1 func285 (N [J c'2,J c'5,W 68]) (V [(6,Y 0 226)]) UD t374 (U []) Baz (aa (Aq Bkv (Aq Bkw AP)))
def Bs4:=fkj func380 (z [(0,J [A,A,A,A,O]),(1,C 65536),(2,C 65537)] [(65536,[A]),(65537,[A])]) [(.ret,⟨[(4,H)],[(65536,[A]),(65537,[A])],[65536,65537]⟩)] QO [] (U [(1,[(.normal,⟨[(4,H)],[(65536,[A]),(65537,[A])],[65536,65537]⟩)])])
def Bs5:=fkl func379 (z [(0,W 185),(1,.one (.clo 380 [] [(65536,0),(65537,0)]))] [(65536,[A]),(65537,[A])]) [(.ret,⟨[(4,B)],[(65536,[A]),(65537,[A])],[65536,65537]⟩)] Ca [Bs4] (U []) (⟨[(0,W 185),(1,.one (.clo 380 [] [(65536,0),(65537,0)])),(7,B),(8,B)],[(65536,[A]),(65537,[A])],[65536,65537]⟩) [(.exit 0,⟨[],[(65536,[A]),(65537,[A])],[65536,65537]⟩),(.ret,⟨[(4,B)],[(65536,[A]),(65537,[A])],[65536,65537]⟩)] BS
def Bs6:=fkj func339 (N [J c'5,B,B]) (V [(6,B),(7,H)]) Tm [Bs5] (U [(4,jn [(6,B),(7,H)])])
def Bs7:=hq func340 (sp [(0,Y 0 3),(1,B),(2,B)]) (V [(6,Y 0 3)]) JF (Ani (r:=6) (t:=3) aE ⟨_,Tryz.func340,κ,κ⟩ (by intro h;cases h) (λ_=>rfl) (Ad8))
def Bs8:=hq func341 (sp [(0,Y 0 3),(1,B),(2,Y 1 3)]) (V [(6,Y 0 3)]) JG (Aei (r:=6) (t:=3) aE ⟨_,Tryz.func341,κ,κ⟩ (by intro h;cases h) (λ_=>rfl) (Aeg))
def Bix:=fkl func284 (z [(0,C 65536),(1,W 226)] [(65536,VJ)]) (nu [] [(65536,VJ)]) CA [Bs6,Bs7,Bs8,Bir] (jl [(9,nu [(0,C 65536),(5,C 80),(10,W 226),(11,B),(12,B)] [(80,[A,A,A,A,A]),(65536,VJ)]),(1048580,nu [(0,C 65536),(5,C 80),(6,B),(7,H),(10,W 226),(11,B),(12,B),(29,H)] [(80,[A,A,A,A,A]),(65536,VJ)]),(1048582,nu [(0,C 65536),(5,C 80),(6,B),(10,W 226),(11,B),(12,B),(49,H)] [(80,[A,A,A,A,A]),(65536,VJ)])]) (su [(0,C 65536),(10,W 226),(11,B),(12,B)] [(65536,VJ)]) [xu 0 [] [(65536,VJ)]] GH
def Bs9:=fkl func288 (N [W 185]) (rh [(2,C 32)] [(32,[D,D])]) Ae5 [Ado,Zu] (U []) (z [(2,C 32),(3,C 48),(6,W 185),(7,B),(8,B)] [(32,[D,D]),(48,[D,D])]) [xh 0 [(2,C 32),(3,C 48)] [(32,[D,D]),(48,[D,D])]] Zn
def Biy:=fk0 func238 (N [J c'5]) (rh [(2,C 32)] [(32,[D,D])]) NU [Bs9]
def Biz:=hq func289 (sp [(0,J [D,D])]) (V [(2,Y 0 185)]) Tl (e:=Bfl G 2 185 (λu d f k=>EX u d f k) (λf d=>Entry.mk f d (-1) 0 aD)) (Bk2 (t:=185) (h:=(λu d f k=>EX u d f k)) (mk:=λf d=>Entry.mk f d (-1) 0 aD) aE ⟨_,Tryz.func289,κ,κ⟩ κ (λ_ _=>by kernel_rfl) (λw u d hb hh hgl=>Bc1 w u d hb λp hp w' hw=>Ayt (h:=(λu d f k=>EX u d f k)) ((show Q268.e=Al1 G 6 (λu d f k=>EX u d f k)by kernel_rfl)▸Q268.k) (hh p hp) (hgl.below hw) hw.size))
def Bta:=fkl func286 (z [(0,C 65536),(1,J [D,D]),(2,J [D,D])] [(65536,VJ)]) (nu [] [(65536,VJ)]) Gp [As3,Ahy,Biw,Biz,Bis,Bix,Ado,Zu] (U []) (su [(0,C 65536),(17,Y 0 185),(18,B),(19,B)] [(65536,Bvm)]) [xu 0 [] [(65536,VJ)]] FI
def Btb:=fkj func343 (N [B]) (V [(2,H)]) Uw [] (U [(1,jn [(2,H)])])
def Btc:=fkl func156 (N [W 3,.one (.clo 343 [] [])]) (V [(4,B)]) Dx [Btb] (U []) (sp [(0,W 3),(1,.one (.clo 343 [] [])),(7,B),(8,B)]) [xt 0 [],rx [(4,B)]] Df
def Btd:=fk0 func84 (N [W 3,.one (.clo 343 [] [])]) (V [(4,H)]) CV [Btc]
def Bi0:=fkj func408 (N [B]) (V [(2,H)]) NR [] (U [(1,jn [(2,H)])])
def Bte:=fkj func409 (N [B,B,B]) (V [(6,H)]) Ys [] (U [(1,jn [(6,H)])])
def Bi1:=fk0 func410 (N [B,J [D,D,D]]) (rh [(4,C 64)] [(64,[D,D,D])]) PB [Ahy]
def Btf:=fkl func412 (z [(0,Y 0 3),(1,C 65536),(2,C 65537)] [(65536,[A]),(65537,[A])]) [(.ret,⟨[(4,B)],[(65536,[A]),(65537,[A])],[65536,65537]⟩)] CN [] (U []) (⟨[(5,B),(6,B),(13,Y 0 3),(14,B),(15,B)],[(65536,[A]),(65537,[A])],[65536,65537]⟩) [(.exit 0,⟨[(5,B)],[(65536,[A]),(65537,[A])],[65536,65537]⟩)] Mt
def Btg:=fkj func385 (N [B,B,B,J [D,D,D],B,B]) (V [(12,B)]) Acp [Bi0,Bte,Bi1,Bbe,Bik,Btf] (U [(7,m [(2,B),(5,B),(15,B),(16,B),(17,.one (.clo 412 [] [(112,0),(160,0)])),(18,H)] [(112,[A]),(160,[A])]),(8,m [(2,B),(5,B),(15,B),(16,B),(17,.one (.clo 412 [] [(112,0),(160,0)])),(87,H)] [(112,[A]),(160,[A])]),(10,m [(2,B),(5,B),(15,B),(16,B),(17,.one (.clo 412 [] [(112,0),(160,0)])),(100,H)] [(112,[A]),(160,[A])])])
def Bth:=fk0 func413 (N [J [D,D]]) (V [(2,B)]) Yq [Bbf]
def Bti:=fk0 func386 (N [B,J [D,D,D]]) (V [(4,B)]) Zc [Bi0,Bi1,Bbf,Bth]
def Bi2:=fkj func346 (N [J c'2,B,J FQ,B,B]) (V [(10,B)]) NQ [PS,Btg,Bti] (jl [(7,m [(1,B),(3,B),(4,B),(5,C 80),(7,C 112),(11,B)] [(80,c'2),(112,FQ)])])
def Bi3:=fkj func407 (N [J FQ]) (V [(2,H)]) MC [] (U [(1,jn [(2,H)])])
def Bi4:=fk0 func405 (N [J c'2,W 68,B,B,B]) (rh [(10,C 160)] [(160,[A,A])]) Ru [Bi2,Bi3]
def Bi5:=fkj func406 (N [J [A,A],J [A,A]]) (V [(4,H)]) NP [] (U [(3,jn [(4,H)])])
def Bi6:=fkl func383 (N [J c'2,W 68,B,B,B]) (V [(10,B)]) Kr [PS,Bi4,Bi5] (U [(9,m [(1,W 68),(2,B),(3,B),(4,B),(5,C 80),(11,B),(12,C 192),(13,B),(15,C 240),(28,W 68),(29,B),(30,B),(55,H)] [(80,c'2),(192,[A,A]),(240,[A,A])])]) (z [(1,W 68),(2,B),(3,B),(4,B),(5,C 80),(11,B),(12,C 192),(28,W 68),(29,B),(30,B)] [(80,c'2),(192,[A,A])]) [xt 0 [(11,B)]] Sa
def Btj:=fkj func384 (N [J Ad5,J [A,A,A,A,O],B]) (V [(6,B)]) Mj [Bi6,Bi4,Bi5,Bi3] (U [(5,m [(3,C 48),(7,B),(8,C 128),(9,H)] [(48,Ad5),(128,FQ)]),(6,jn [(7,B),(78,H)])])
def Btk:=fkj func344 (N [J Ad5,J [A,A,A,A,O],B]) (rh [(6,C 96)] [(96,[A,A,A,A,O])]) LY [Bi6,Btj] (U [(5,m [(2,B),(3,C 48),(4,C 64),(6,C 96),(7,B),(31,H)] [(48,Ad5),(64,[A,A,A,A,O]),(96,[A,A,A,A,O])]),(10,m [(2,B),(3,C 48),(4,C 64),(6,C 96),(70,H)] [(48,Ad5),(64,[A,A,A,A,O]),(96,[A,A,A,A,O])])])
def Btl:=fkj func345 (N [J [A,A,A,A,O],J [A,A,A,A,O]]) (V [(4,Y 0 226)]) Th [] (jl [(8,m [(2,C 32),(3,C 48),(5,Y 0 226)] [(32,[A,A,A,A,O]),(48,[A,A,A,A,O])]),(1048578,m [(2,C 32),(3,C 48),(5,Y 0 226),(18,H)] [(32,[A,A,A,A,O]),(48,[A,A,A,A,O])])])
def Btm:=fkl func287 (N [J c'2,J c'5,W 3,W 68]) (V [(8,Y 0 226),(9,Y 1 3),(10,B)]) Yp [TD,Btd,Btk,Btl,Bi2] (U [(12,m [(2,W 3),(3,W 68),(4,C 64),(11,C 176),(12,Y 0 226),(13,Y 1 3),(14,B),(15,C 240),(16,C 256),(48,W 185),(49,B),(50,B),(85,H)] [(64,c'2),(176,Ad5),(240,[A,A,A,A,O]),(256,[A,A,A,A,O])])]) (z [(2,W 3),(3,W 68),(4,C 64),(11,C 176),(12,Y 0 226),(13,Y 1 3),(48,W 185),(49,B),(50,B)] [(64,c'2),(176,Ad5)]) [xt 0 [(12,Y 0 226),(13,Y 1 3)]] UL
def Btn:=fkj func236 (N [J c'2,J c'5,W 3,W 68,W 55,J [D,D],H]) (rh [(14,C 224),(15,B)] [(224,Ah7)]) Uz [Bsw,TD,Bs0,Bs1,As2,Bs2,Bs3,Bix,Biy,Bta,Btm] (jl [(11,m [(3,W 68),(7,C 112),(14,C 224),(18,C 736)] [(112,c'2),(224,Ah7),(736,Bvn)])])
def Aw4:Sp:=su [(0,C 65536),(2,C 32),(82,W 226),(83,B),(84,B)] [(32,Aty),(65536,Atz)]
def Axu:SL:=[xu 0 [(0,C 65536),(2,C 32)] [(32,Aty),(65536,Atz)]]
def Aw5:Sp:=su [(0,C 65536),(2,C 32),(112,B),(113,B)] [(32,Aty),(65536,Atz)]
def Axv:SL:=[xu 2 [] [(65536,BK)]]
def Bao:=jl [(7,nu [(0,C 65536),(2,C 32)] [(32,Aty),(65536,Atz)]),(1048577,nu [(0,C 65536),(2,C 32)] [(32,Bjv),(65536,Bjw)]),(2097153,nu [(0,C 65536),(2,C 32)] [(32,Bjv),(65536,Bjw)])]
def t405:List KP:=[Bsv,Btn,Bbj,Bia,Ado,Zu]
def Ba0:LP:=pl [aB Aw4 Axu CZ,aB Aw5 Axv Da]
def Bky:LK f177 Ba0 1:=lk0 t405 Bao 2 Aw5 Axv Da
def Bkx:LK f177 Ba0 0:=lk0 t405 Bao 1 Aw4 Axu CZ
def Bto:=fk1 func177 (z [(0,C 65536)] [(65536,BK)]) (nu [] [(65536,BK)]) Gq t405 Bao Ba0 (aa (Aq Bkx (Aq Bky AP)))
def Btp:=fkl func292 (N [W 143,J [A,A,A],.one (.clo 89 [] [])]) (V [(6,B),(7,H)]) Bs [Bhv] (U [(8,jn [(6,B),(7,H)])]) (z [(0,W 143),(2,.one (.clo 89 [] [])),(4,C 64),(8,B),(9,B),(10,B)] [(64,[A,A,A])]) [xh 0 [(0,W 143),(2,.one (.clo 89 [] [])),(4,C 64),(8,B),(9,B)] [(64,[A,A,A])]] Bj
def Btq:=hq func293 (sp [(0,Y 0 143),(1,B),(2,Y 1 143)]) (V [(6,Y 0 143)]) Fc (Aei (r:=6) (t:=143) aE ⟨_,Tryz.func293,κ,κ⟩ (by intro h;cases h) (λ_=>rfl) (Aef))
def Btr:=fkl func239 (N [J c'2,B,J CR,J [D,D]]) (rh [(8,C 128),(9,B)] [(128,Km)]) Uy [Adn,As3,Ahy,Biz,Btp,Btq] (U [(14,m [(6,C 96),(8,C 128)] [(96,Km),(128,RN)])]) (z [(6,C 96),(8,C 128),(36,Y 0 185),(37,B),(38,B)] [(96,RN),(128,Ad4)]) [xh 0 [(6,C 96),(8,C 128)] [(96,Km),(128,RN)]] Sb
def Bts:=fkj func294 (N [B]) (V [(2,H)]) Wl [] (U [(1,jn [(2,H)])])
def Btt:=fkl func240 (N [J c'2,B,B,J CR]) (rh [(8,C 128)] [(128,[D,D,O])]) Wk [Bts,Adn,Ado,Zu] (U []) (z [(1,B),(4,C 64),(8,C 128),(9,C 144),(24,W 143),(25,B),(26,B)] [(64,c'2),(128,[D,D,O]),(144,[D,D,O])]) [xh 0 [(8,C 128),(9,C 144)] [(128,[D,D,O]),(144,[D,D,O])]] Tv
def Btu:=fkj func241 (N [B,B]) (V [(4,H)]) Tn [] (U [(1,jn [(4,H)])])
def Btv:=fkl func178 (z [(0,C 65536)] [(65536,BK)]) (nu [] [(65536,BK)]) Hf [Biy,As1,Bbb,Btr,Btt,Btu] (jl [(7,nu [(0,C 65536),(2,B),(3,B),(29,W 3),(30,B),(31,B)] [(65536,BK)]),(1048580,nu [(0,C 65536),(2,B),(3,B),(29,W 3),(30,B),(31,B),(49,H)] [(65536,BK)])]) (su [(0,C 65536),(29,W 3),(30,B),(31,B)] [(65536,BK)]) [xu 0 [] [(65536,BK)]] Gu
def Aw6:List (Sp×(Nat->Option SL)):=[(su [(0,C 65536),(14,.one (.sa 224 0 5)),(15,.one (.lit .i64 5)),(16,.one (.lit .i64 0))] [(224,Ad6),(65536,Atx)],U [(3,nu [(0,C 65536),(14,.one (.sa 224 0 5)),(15,.one (.lit .i64 5)),(16,.one (.lit .i64 0))] [(224,Ad6),(65536,BK)])]),(su [(0,C 65536),(14,.one (.sa 224 0 5)),(15,.one (.lit .i64 5)),(16,.one (.lit .i64 1))] [(224,Ad6),(65536,BK)],U []),(su [(0,C 65536),(14,.one (.sa 224 0 5)),(15,.one (.lit .i64 5)),(16,.one (.lit .i64 2))] [(224,Ad6),(65536,BK)],U []),(su [(0,C 65536),(14,.one (.sa 224 0 5)),(15,.one (.lit .i64 5)),(16,.one (.lit .i64 3))] [(224,Ad6),(65536,BK)],U []),(su [(0,C 65536),(14,.one (.sa 224 0 5)),(15,.one (.lit .i64 5)),(16,.one (.lit .i64 4))] [(224,Ad6),(65536,BK)],U []),(su [(0,C 65536),(14,.one (.sa 224 0 5)),(15,.one (.lit .i64 5)),(16,.one (.lit .i64 5))] [(224,Ad6),(65536,BK)],U [])]
def t413:List KP:=[Bqy,Bse,Bsu,Bto,Btv]
def Bg8:LP:=pl [lpN (rN (cfQ (KL t413)) 28 (TQ (cfQ (KL t413)) 28) (pl []) (λ_=>[]) 1 (Pi (Bo f118) 0) Aw6)]
def Bkz:LK f118 Bg8 0:=lkn cx (KLs t413) (pl []) 1 Aw6
def Btw:=fk1 func118 (z [(0,C 65536)] [(65536,Atx)]) [ry [] [(65536,BK)],(.normal,su [] [(65536,BK)])] IL t413 (U []) Bg8 (aa (Aq Bkz AP))
def Btx:=fkj func71 (N [J c'2,J Db,os,B]) (rh [(8,C 128),(9,C 144),(10,B)] [(128,Atv),(144,Atw)]) Wn [Bqr,Bh6,Bh9,Bh7,Bh8,Btw] (U [(5,m [(8,C 128),(9,C 144),(14,C 640)] [(128,Nr),(144,Am0),(640,Bvo)])])
def Q415:=fk0 func24 (N [J c'2,J Db,os,B]) (rh [(8,C 128),(9,C 144),(10,B)] [(128,Atv),(144,Atw)]) Lr [Bhz,Bqj,Btx]
def I416:Sp:=N []
def Bg5:SL:=V [(0,H)]
def Bn8(p0:(Dj×Unit)->Option ((Unit×Unit)×(T'0×Unit)))(p1:((T'0×Unit)×Unit)->Option ((Unit×Int×Unit)×(Cb×Unit)))(p2:((T'0×Jr×Unit)×Unit)->Option ((Unit×Unit)×(Jr×Unit)))(p3:((T'0×Jr×Unit)×Unit)->Option ((ByteArray×Int×Unit)×Unit))(p4:(Bex×Unit)->Option (Adt×(Cb×Afe×Unit))) :Option ((Bool×Unit)×Unit):=letI a:=(0:Int);letI b:=((aD,()),());letI d:=(2:Int);(p0 (((d,(40:Int),(90:Int),()),()),())).bind λy1=>aH (aC (((),()),(y1.2.1,()))) λy2=>(p1 ((y2.2.1,()),())).bind λy3=>(p2 ((y2.2.1,(d,a,a,a,([]:List CarInput),()),()),())).bind λy4=>(p3 ((y2.2.1,y4.2.1,()),())).bind λy5=>aH (aC (((),(),y5.1.1,()),(y2.2.1,y3.2.1,()))) λy6=>(p4 ((y6.2.1,y6.2.2.1,y6.1.2.2.1,(1048576:Int),()),())).bind λy7=>letI c:=y7.2.2.1.2.2.2.2.2.2.2.1;(p4 ((y6.2.1,y6.2.2.1,y6.1.2.2.1,(3:Int),()),())).bind λy8=>aH (cond (y7.1.2.2.1==a) (cond ((y7.2.2.1.1==d)&&((y7.2.2.1.2.1==a)&&true)) (cond ((c.length:Int)==1) (cond (inB a c.length) (let z0:CarOutput:=c.getD a.toNat (CarOutput.mk a a aD a a aD a a aD);cond ((z0.Z2==d)&&((z0.T2==a)&&true)) (cond (y7.2.1.2.2.2.2.2.2.2.2.2.2.2.2.2.1==1) (aC ((y8.1.2.2.1==8,()),())) (aC b)) (aC b)) none) (aC b)) (aC b)) (aC b)) λy9=>aC ((y9.1.1,()),())
def Bvy(p0:(Dj×Unit)->Option ((Unit×Unit)×(T'0×Unit)))(p1:((T'0×Unit)×Unit)->Option ((Unit×Int×Unit)×(Cb×Unit)))(p2:((T'0×Jr×Unit)×Unit)->Option ((Unit×Unit)×(Jr×Unit)))(p3:((T'0×Jr×Unit)×Unit)->Option ((ByteArray×Int×Unit)×Unit))(p4:(Bex×Unit)->Option (Adt×(Cb×Afe×Unit)))(x:I416.T G):XB (cfQ [(4,Fe.mk (G:=G) Q3.e.I Q3.e.E p0 Q3.e.rs),(11,Fe.mk (G:=G) Q37.e.I Q37.e.E p1 Q37.e.rs),(14,Fe.mk (G:=G) Q38.e.I Q38.e.E p2 Q38.e.rs),(23,Fe.mk (G:=G) Q50.e.I Q50.e.E p3 Q50.e.rs),(24,Fe.mk (G:=G) Q415.e.I Q415.e.E p4 Q415.e.rs)]) (pl []) (U [(6,jn [(0,H)]),(1048578,m [(1,C 16)] [(16,c'2)]),(1048580,m [(1,C 16),(2,C 32),(4,os)] [(16,c'2),(32,Db)])]) 77 (Bo f9) I416 Bg5 x=Bn8 p0 p1 p2 p3 p4:=κ
def e416:Fe G:=fe f9 I416 Bg5 Ja
def Bvt:K 9 e416:=fk cx (tc Q3.k (tc Q37.k (tc Q38.k (tc Q50.k (tc Q415.k tn))))) (U [(6,jn [(0,H)]),(1048578,m [(1,C 16)] [(16,c'2)]),(1048580,m [(1,C 16),(2,C 32),(4,os)] [(16,c'2),(32,Db)])]) (lp:=(pl [])) func9 κ κ rfl (an0 κ) λx=>(Bvy (λx=>EA x.1.1.1 x.1.1.2.1 x.1.1.2.2.1) (λx=>letI a:=x.1.1.2.2;letI b:=a.2.2;Ka x.1.1.1 x.1.1.2.1 a.1 a.2.1 b.1 b.2.1 b.2.2.1 b.2.2.2.1) (λx=>letI a:=x.1.1.2.2;letI b:=x.1.2.1;letI c:=a.2.2;HZ x.1.1.1 x.1.1.2.1 a.1 a.2.1 c.1 c.2.1 c.2.2.1 c.2.2.2.1 b.1 b.2.1 b.2.2.1 b.2.2.2.1 b.2.2.2.2.1) (λx=>letI a:=x.1.1.2.2;letI b:=x.1.2.1;letI c:=a.2.2;Ng x.1.1.1 x.1.1.2.1 a.1 a.2.1 c.1 c.2.1 c.2.2.1 c.2.2.2.1 b.1 b.2.1 b.2.2.1 b.2.2.2.1 b.2.2.2.2.1) (λx=>letI d:=x.1.2.1.2;letI f:=d.2.2;letI a:=f.2.2.2;letI b:=a.2.2.2.2;letI c:=x.1.1.2.2;letI e:=c.2.2;letI g:=b.2.2;Lr x.1.1.1 x.1.1.2.1 c.1 c.2.1 e.1 e.2.1 e.2.2.1 e.2.2.2.1 x.1.2.1.1 d.1 d.2.1 f.1 f.2.1 f.2.2.1 a.1 a.2.1 a.2.2.1 a.2.2.2.1 b.1 b.2.1 g.1 g.2.1 g.2.2.1 g.2.2.2.1 x.1.2.2.1 x.1.2.2.2.1) x).trans κ
def I417:Sp:=N [J [c1,c1,c1],W 5,W 51]
def E417:SL:=V [(6,H)]
def S417_0:Sp:=z [(2,W 51),(3,C 48),(7,C 112),(8,C 128),(9,Y 0 51),(10,B)] [(48,[c1,c1,c1]),(112,c'2),(128,Db)]
def Amn:SL:=[xh 0 [(2,W 51),(7,C 112),(8,C 128),(9,Y 0 51)] [(112,c'2),(128,Db)]]
def S417_1:Sp:=z [(7,C 112),(8,C 128),(9,W 51),(51,Y 0 24),(52,B),(53,B)] [(112,c'2),(128,Db)]
def Amo:SL:=[xh 2 [(7,C 112),(9,W 51)] [(112,c'2)],rx [(6,H)]]
def S417_2:Sp:=z [(7,C 112),(8,C 128),(9,W 51),(14,Y 0 68),(15,Y 1 68),(16,B),(51,Y 2 24),(52,B),(53,B)] [(112,c'2),(128,Db)]
def Amp:SL:=[xh 4 [(7,C 112),(8,C 128),(9,W 51),(51,Y 0 24),(52,B),(53,B)] [(112,c'2),(128,Db)],rx [(6,H)]]
def Zm:=U [(21,jn [(6,H)]),(1048578,m [(1,W 5),(2,W 51),(3,C 48),(7,C 112)] [(48,[c1,c1,c1]),(112,c'2)]),(1048585,m [(2,W 51),(7,C 112),(8,C 128),(9,W 51)] [(112,c'2),(128,Db)])]
def Zt:LP:=pl [aB S417_0 Amn DZ,aB S417_1 Amo Ea,aB S417_2 Amp Eb]
def t417:KS [(4,Q3.e),(5,Q175.e),(6,Q39.e),(7,Q232.e),(8,Q233.e),(9,e416)]:=(tc Q3.k (tc Q175.k (tc Q39.k (tc Q232.k (tc Q233.k (tc Bvt tn))))))
def Bf0(p0:(Unit×Unit)->Option ((Bool×Unit)×Unit))(p1:List aF)(x_1 y:List View)(i:Int)(s51:List (List aF))(s52 s53 p2 p3 p4 p5:Int)(p6 p7 p8:Nat)(p9:List Car)(p10:List Int)(p11 p12:List Bool)(p13:List Entry)(p14 p15:ByteArray)(p16:Int)(p17:List Debounced)(p18:List Belief)(p19:List NewCar)(p20:List Loaded)(p21:List Int)(p22:List Calls)(p23 p24 p25:Int):Option (Sum (Bew×(T'0×Cb×Unit)) ((Alp×(T'0×Cb×Unit))⊕((Bool×Unit)×Unit))):=letI a:=(0:Int);letI b:=((p2,p3,p4,p5,p6,p7,p8,p9,()),(p10,p11,p12,p13,p14,p15,p16,p17,p18,p19,p20,p21,p22,p23,p24,p25,()),());letI c:=View.mk aD aD aD aD a a a a a a a a;cond (decide (i<(x_1.length:Int))) (cond (inB i x_1.length) (let z0:View:=x_1.getD i.toNat c;cond (inB i y.length) (let z1:View:=y.getD i.toNat c;cond (! ((z0.O2==z1.O2)&&((z0.L2==z1.L2)&&((z0.N2==z1.N2)&&((z0.B3==z1.B3)&&((z0.C0==z1.C0)&&((z0.G0==z1.G0)&&((z0.X2==z1.X2)&&((z0.I2==z1.I2)&&((z0.X1==z1.X1)&&((z0.D2==z1.D2)&&((z0.G1==z1.G1)&&((z0.D1==z1.D1)&&true))))))))))))) (aC (aG (aG ((aD,()),())))) (aC (Sum.inl (((),(),p1,x_1,y,IntKind.i64.wrap (i+1),s51,s52,s53,()),b)))) none) none) (aC (aG (Sum.inl (((),(),p1,s51,s52,s53,()),b))))
def Bkb(h_l27_sane:(Unit×Unit)->Option ((Bool×Unit)×Unit))(x:S417_2.T G):Aex (cfQ [(4,Q3.e),(5,Q175.e),(6,Q39.e),(7,Q232.e),(8,Q233.e),(9,Fe.mk (G:=G) e416.I e416.E h_l27_sane e416.rs)]) Zt Zm 95 3 (Pi (Bo f3) 2) S417_2 Amp x=(letI e:=x.2.2.1.2;letI h:=e.2.2;letI a:=h.2.2.2;letI b:=a.2.2.2.2;letI c:=x.1.2.2.2;letI d:=x.2.1.2.2;letI f:=c.2.2;letI g:=d.2.2;letI j:=b.2.2;Bf0 h_l27_sane x.1.2.2.1 c.1 c.2.1 f.1 f.2.1 f.2.2.1 f.2.2.2.1 x.2.1.1 x.2.1.2.1 d.1 d.2.1 g.1 g.2.1 g.2.2.1 g.2.2.2.1 x.2.2.1.1 e.1 e.2.1 h.1 h.2.1 h.2.2.1 a.1 a.2.1 a.2.2.1 a.2.2.2.1 b.1 b.2.1 j.1 j.2.1 j.2.2.1 j.2.2.2.1):=κ
def Ay3:LK f3 Zt 2:=lk cx t417 Zm 3 S417_2 Amp (rfl:Eb=_) κ (an0 κ) λx=>(Bkb (λ_=>Ja) x).trans κ
def Bfz(p0:(Unit×Unit)->Option ((Bool×Unit)×Unit))(p1:List aF)(s51:List (List aF))(s52 s53 p2 p3 p4 p5:Int)(p6 p7 p8:Nat)(p9:List Car)(p10:List Int)(p11 p12:List Bool)(p13:List Entry)(p14 p15:ByteArray)(p16:Int)(p17:List Debounced)(p18:List Belief)(p19:List NewCar)(p20:List Loaded)(p21:List Int)(p22:List Calls)(p23 p24 p25:Int):Option (Sum (Alp×(T'0×Cb×Unit)) ((Bev×(T'0×Unit))⊕((Bool×Unit)×Unit))):=letI a:=(p2,p3,p4,p5,p6,p7,p8,p9,());cond (decide (s53<s52)) (cond (inB s53 s51.length) (let z0:List (aF):=s51.getD s53.toNat [];(DQ p2 p3 p4 p5 p6 p7 p8 p9 p10 p11 p12 p13 p14 p15 p16 p17 p18 p19 p20 p21 p22 p23 p24 p25 z0).bind λy1=>(Ms p2 p3 p4 p5 p6 p7 p8 p9 p10 p11 p12 p13 p14 p15 p16 p17 p18 p19 p20 p21 p22 p23 p24 p25 z0).bind λy2=>cond ((y1.1.1.length:Int) !=(y2.1.1.length:Int)) (aC (aG (aG ((aD,()),())))) ((Eb (((),(),p1,y1.1.1,y2.1.1,(0:Int),s51,s52,s53,()),(a,(p10,p11,p12,p13,p14,p15,p16,p17,p18,p19,p20,p21,p22,p23,p24,p25,()),()))).bind λy3=>match y3 with|.inl y4=>letI b:=y4.1.2.2;aC (Sum.inl (((),(),b.1,b.2.1,b.2.2.1,IntKind.i64.wrap (b.2.2.2.1+1),()),(y4.2.1,y4.2.2.1,())))|.inr y4=>aC (aG (aG ((y4.1.1,()),()))))) none) (aC (aG (Sum.inl (((),p1,()),(a,())))))
def Bka(h_l27_sane:(Unit×Unit)->Option ((Bool×Unit)×Unit))(x:S417_1.T G):Aex (cfQ [(4,Q3.e),(5,Q175.e),(6,Q39.e),(7,Q232.e),(8,Q233.e),(9,Fe.mk (G:=G) e416.I e416.E h_l27_sane e416.rs)]) Zt Zm 95 2 (Pi (Bo f3) 1) S417_1 Amo x=(letI d:=x.2.2.1.2;letI g:=d.2.2;letI a:=g.2.2.2;letI b:=a.2.2.2.2;letI c:=x.2.1.2.2;letI e:=x.1.2.2;letI f:=c.2.2;letI h:=b.2.2;Bfz h_l27_sane e.1 e.2.1 e.2.2.1 e.2.2.2.1 x.2.1.1 x.2.1.2.1 c.1 c.2.1 f.1 f.2.1 f.2.2.1 f.2.2.2.1 x.2.2.1.1 d.1 d.2.1 g.1 g.2.1 g.2.2.1 a.1 a.2.1 a.2.2.1 a.2.2.2.1 b.1 b.2.1 h.1 h.2.1 h.2.2.1 h.2.2.2.1):=κ
def Bk1:LK f3 Zt 1:=lk cx t417 Zm 2 S417_1 Amo (rfl:Ea=_) κ (aa (Aq Ay3 AP)) λx=>(Bka (λ_=>Ja) x).trans κ
def Bfy(p0:(Unit×Unit)->Option ((Bool×Unit)×Unit))(raw p1:List aF)(i p2 p3 p4 p5 p6 p7 p8:Int)(p9 p10 p11:Nat)(p12:List Car)(p13:List Int)(p14 p15:List Bool)(p16:List Entry)(p17 p18:ByteArray)(p19:Int)(p20:List Debounced)(p21:List Belief)(p22:List NewCar)(p23:List Loaded)(p24:List Int)(p25:List Calls)(p26 p27 p28:Int):Option (Sum (Bes×Bet) (Beu×(T'0×Cb×Unit))):=letI a:=((p5,p6,p7,p8,p9,p10,p11,p12,()),(p13,p14,p15,p16,p17,p18,p19,p20,p21,p22,p23,p24,p25,p26,p27,p28,()),());letI b:=(0:Int);cond (decide (i<(p12.length:Int))) ((Ia p5 p6 p7 p8 p9 p10 p11 p12 (IntKind.u8.wrap i) p2 p3 p4 b b).bind λy1=>cond (inB i y1.2.1.2.2.2.2.1.length) (let z0:CarInput:=y1.2.1.2.2.2.2.1.getD i.toNat (CarInput.mk b aD aD aD aD b aD b aD b 0);let z1:List (aF):=[Feedback.mk z0.S1 z0.E2 z0.U1 z0.G2];cond ((p1.length+z1.length).ble 2147483648) (aC (Sum.inl ((raw,(),(),(),p1++z1,IntKind.i64.wrap (i+1),()),((p2,p3,p4,()),a)))) none) none) (aC (aG ((raw,(),(),p1,()),a)))
def Bj9(h_l27_sane:(Unit×Unit)->Option ((Bool×Unit)×Unit))(x:S417_0.T G):Aex (cfQ [(4,Q3.e),(5,Q175.e),(6,Q39.e),(7,Q232.e),(8,Q233.e),(9,Fe.mk (G:=G) e416.I e416.E h_l27_sane e416.rs)]) Zt Zm 95 1 (Pi (Bo f3) 0) S417_0 Amn x=(letI c:=x.2.2;letI e:=c.2.1.2;letI a:=e.2.2.2.2;letI b:=a.2.2.2.2;letI d:=c.1.2.2;letI f:=b.2.2;letI g:=d.2.2;Bfy h_l27_sane x.1.1 x.1.2.2.2.2.1 x.1.2.2.2.2.2.1 x.2.1.1 x.2.1.2.1 x.2.1.2.2.1 c.1.1 c.1.2.1 d.1 d.2.1 g.1 g.2.1 g.2.2.1 g.2.2.2.1 c.2.1.1 e.1 e.2.1 e.2.2.1 e.2.2.2.1 a.1 a.2.1 a.2.2.1 a.2.2.2.1 b.1 b.2.1 f.1 f.2.1 f.2.2.1 f.2.2.2.1 f.2.2.2.2.1):=κ
def Bk0:LK f3 Zt 0:=lk cx t417 Zm 1 S417_0 Amn (rfl:DZ=_) κ (an0 κ) λx=>(Bj9 (λ_=>Ja) x).trans κ
def Bn9(p0:(Unit×Unit)->Option ((Bool×Unit)×Unit))(p1 p2 p3:Int)(l:List Int)(raw:List aF):Option ((Bool×Unit)×Unit):=letI b:=(0:Int);letI g:=ByteArray.mk (Array.mk []);(EA p1 p2 p3).bind λy1=>aH (aC ((l,raw,(),(),()),((p1,p2,p3,()),y1.2.1,()))) λy2=>letI a:=y2.2.2.1;letI d:=a.2.2;letI e:=d.2;letI h:=e.2;(Ml a.1 a.2.1 d.1 e.1 h.1 h.2.1 h.2.2.1 h.2.2.2.1 y2.1.1 50).bind λy3=>(DZ ((y2.1.2.1,(),(),(),([]:List aF),b,()),(y2.2.1,a,y3.2.1,()))).bind λy4=>aH (aC ((y4.1.1,(),(),y4.1.2.2.2.1,()),(y4.2.1,y4.2.2.1,()))) λy5=>let z0:List (List (aF)):=[y5.1.2.2.2.1,y5.1.1,[]];(Ea (((),(),y5.1.2.2.2.1,z0,(z0.length:Int),b,()),(y5.2.1,y5.2.2.1,()))).bind λy6=>match y6 with|.inl y7=>letI c:=y7.2.1.2.2;letI f:=c.2;letI j:=f.2;aH ((DQ y7.2.1.1 y7.2.1.2.1 c.1 f.1 j.1 j.2.1 j.2.2.1 j.2.2.2.1 [] [] [] [] g g b [] [] [] [] [] [] b b b y7.1.2.1).bind λy8=>cond ((y8.1.1.length:Int)==b) ((p0 ((),())).bind λy9=>aC ((y9.1.1,()),())) (aC ((aD,()),()))) λy10=>aC ((y10.1.1,()),())|.inr y7=>aC ((y7.1.1,()),())
def Bvz(p0:(Unit×Unit)->Option ((Bool×Unit)×Unit))(x:I417.T G):XB (cfQ [(4,Q3.e),(5,Q175.e),(6,Q39.e),(7,Q232.e),(8,Q233.e),(9,Fe.mk (G:=G) e416.I e416.E p0 e416.rs)]) Zt Zm 95 (Bo f3) I417 E417 x=Bn9 p0 x.1.1.1 x.1.1.2.1 x.1.1.2.2.1 x.1.2.1 x.1.2.2.1:=κ
def e417:Fe G:=fe f3 I417 E417 F_l27_MachineViews
def k417:K 3 e417:=fk cx t417 Zm (lp:=Zt) func3 κ κ rfl (aa (Aq Bk0 (Aq Bk1 (Aq Ay3 AP)))) λx=>(Bvz (λ_=>Ja) x).trans κ
end
end Go.Ovl
