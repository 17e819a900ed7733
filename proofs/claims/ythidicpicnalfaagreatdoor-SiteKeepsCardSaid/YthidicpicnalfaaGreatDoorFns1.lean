import Derived.Test.YthidicpicnalfaaGreatDoorSig
import Derived.Test.YthidicpicnalfaaGreatDoorDefs4
import Derived.Test.YthidicpicnalfaaGreatDoorHandD
set_option linter.all false
open Go.Ab renaming ci->A,oi->B,op->C,c4->D,ob->H,oA->J,ia->N,cw->O,cb->P,js->U,oro->V,rt->W,cr->Y,sh->Z,cs->y,rh->z,CSh->aA
open Option renaming some->aB
open Sum renaming inr->aC,inl->aG
open Go.Ovl renaming sigOK->aD
open Go.Ab.Fe renaming mk->aE
open Bool renaming false->aF
namespace Go.Ovl
open Go Go.Ab Go.Proofs Go.Proofs.Tryz
set_option maxRecDepth 100000
noncomputable section
def c'0:List aA:=[A,A,A,A,cf,cf,cf,O 0 104]
def c'1:List aA:=[A,A,A,A,cf,cf,cf,O 1 104]
def c'2:List aA:=[A,A,A,A,cf,cf,cf,Y 104]
def c'3:List aA:=[A,A,A,A,A,A,A,A,A]
def c'4:List aA:=[O 0 3,O 1 4,O 2 4,O 3 198]
def c'5:List aA:=[Y 3,Y 4,Y 4,Y 198]
def c'6:List aA:=[O 1 3,O 2 4,O 3 4,O 4 198]
def c'7:List aA:=[O 5 3,O 6 4,O 7 4,O 8 198]
def c'8:List aA:=[O 4 3,O 5 4,O 6 4,O 7 198]
def c'9:List aA:=[.np 65536 248,O 0 5]
def Vh:List aA:=[A,A,A,O 0 202,A,P]
def Qe:List aA:=[O 0 3,O 1 4,O 2 4,O 3 198,y,y,A,O 4 163,O 5 168,O 6 179,O 7 184,O 8 3,O 9 54,A,A,A]
def Ab8:List aA:=[O 10 3,O 11 4,O 12 4,O 13 198,y,y,A,O 14 163,O 15 168,O 16 179,O 17 184,O 18 3,O 19 54,A,A,A]
def Jr:List aA:=[A,A,A,A,A,A,D,D,D]
def Kb:List aA:=[A,A,A,A,A,A]
def Ab9:List aA:=[O 0 3,O 1 4,O 2 4,O 3 198,y,y,A,O 4 163,O 5 168,O 6 179,O 7 184,O 8 3,O 9 54,A,A,A,O 10 79,O 11 82]
def Bi1:List aA:=[O 12 3,O 13 4,O 14 4,O 15 198,y,y,A,O 16 163,O 17 168,O 18 179,O 19 184,O 20 3,O 21 54,A,A,A,O 22 79,O 23 82]
def Wx:List aA:=[D,D,A,A,O 0 52,O 1 3,O 2 4,O 3 24,P]
def Ame:List aA:=[D,D,A,A,O 4 52,O 5 3,O 6 4,O 7 24,P]
def Vi:List aA:=[D,P,P,P,P,A,A,A,A,A,A,A,A,A,A,A,A,A,A,A,A,A,A,A,A,A,A,A,A,A,A,A,A,A,A,A,A,A,A,A,A]
def Br5:List aA:=[A,A,A,A,A,A,A,A,A,A,A,A,A,A,A,A,A,A,A,A,A,A,A,A,A,A,A,A,A,A,A,A,A,A,A,A]
def To:List aA:=[A,A,A,Y 202,A,P]
def Mg:List aA:=[A,A,A,A,A,P,A,A,A,A,D,A,A,P]
def Aca:List aA:=[Y 3,Y 4,Y 4,Y 198,y,y,A,Y 163,Y 168,Y 179,Y 184,Y 3,Y 54,A,A,A]
def RF:List aA:=[Y 3,Y 4,Y 4,Y 198,y,y,A,Y 163,Y 168,Y 179,Y 184,Y 3,Y 54,A,A,A,Y 79,Y 82]
def Vj:List aA:=[D,D,A,A,Y 52,Y 3,Y 4,Y 24,P]
def Yx:List aA:=[D,D,A,A,O 0 119]
def Bi2:List aA:=[D,D,A,A,O 1 119]
def Br6:List aA:=[D,P,P,P,P,A,P,A,P,D,cf]
def Bau:List aA:=[D,D,A,A,Y 119]
def Kc:List aA:=[y,A,A,A,A,cf,cf,cf,Y 104]
def As9:List aA:=[A,A,A,A,cf,cf,cf,Y 104,Y 3,Y 4,Y 4,Y 198,y,y,A,O 0 163,O 1 168,O 2 179,O 3 184,Y 3,Y 54,A,A,A,D,D,A,A,O 4 119,P,A,A,O 5 4,O 6 54,O 7 4,D,D,D,D,P,P,A,O 8 70]
def CD:List aA:=[A,A,A,A,cf,cf,cf,Y 104,Y 3,Y 4,Y 4,Y 198,y,y,A,O 0 163,O 1 168,O 2 179,O 3 184,Y 3,Y 54,A,A,A,D,D,A,A,Y 119,P,A,A,O 4 4,O 5 54,O 6 4,D,D,D,D,P,P,A,O 7 70]
def Agq:List aA:=[A,A,A,O 1 202,A,P]
def HC:List aA:=[A,A,A,A,cf,cf,cf,Y 104,A,A,A,A,A,A,P,A,A,A,A,D,A,A,P,A,P,A,P,A]
def KN:List aA:=[P,P,P,A,A,A]
def Yy:List aA:=[A,A,A,A,cf,cf,cf,Y 104,Y 3,Y 4,Y 4,Y 198,y,y,A,O 1 163,O 2 168,O 3 179,O 4 184,Y 3,Y 54,A,A,A,D,D,A,A,Y 119,P,A,A,O 5 4,O 6 54,O 7 4,D,D,D,D,P,P,A,O 8 70]
def RG:List aA:=[Y 3,Y 4,Y 4,Y 198,A,P]
def Vk:List aA:=[P,P,P,P,A,A,A,D,D,D,D,D]
def Ata:List aA:=[O 0 54,O 1 4,D,D]
def Bi3:List aA:=[O 2 54,O 3 4,D,D]
def Vl:List aA:=[O 0 243,O 1 3,O 2 4,O 3 4,O 4 198,O 5 3,O 6 54,O 7 4,D,D,D,D,A,A,A,A,cf,cf,cf,Y 104]
def Br7:List aA:=[O 1 243,O 2 3,O 3 4,O 4 4,O 5 198,O 6 3,O 7 54,O 8 4,D,D,D,D,A,A,A,A,cf,cf,cf,Y 104]
def Acb:List aA:=[A,A,A,A,cf,cf,cf,Y 104,Y 345]
def Bi4:List aA:=[O 0 243,O 1 3,O 2 4,O 3 4,O 4 198,O 5 3,O 6 54,O 7 4,D,D,D,D]
def Br8:List aA:=[O 8 243,O 9 3,O 10 4,O 11 4,O 12 198,O 13 3,O 14 54,O 15 4,D,D,D,D,A,A,A,A,cf,cf,cf,Y 104]
def Atb:List aA:=[Y 243,O 0 3,O 1 4,O 2 4,O 3 198,Y 3,Y 54,O 4 4,D,D,D,D]
def Atc:List aA:=[A,A,A,A,cf,cf,cf,Y 104,Y 3,Y 4,Y 4,Y 198,y,y,A,O 5 163,O 6 168,O 7 179,O 8 184,Y 3,Y 54,A,A,A,D,D,A,A,Y 119,P,A,A,O 9 4,O 10 54,O 11 4,D,D,D,D,P,P,A,O 12 70]
def Bi5:List aA:=[Y 243,O 0 3,O 1 4,O 2 4,O 3 198,O 4 3,O 5 54,O 6 4,D,D,D,D]
def Bi6:List aA:=[A,A,A,A,cf,cf,cf,Y 104,Y 3,Y 4,Y 4,Y 198,y,y,A,O 7 163,O 8 168,O 9 179,O 10 184,Y 3,Y 54,A,A,A,D,D,A,A,Y 119,P,A,A,O 11 4,O 12 54,O 13 4,D,D,D,D,P,P,A,O 14 70]
def Br9:List aA:=[A,A,A,O 2 202,A,P]
def Acc:List aA:=[.clo 127 [(65536,0)] [],.clo 128 [(65536,0)] [],.clo 129 [(65536,0)] [],.clo 130 [(65536,0)] [],.clo 131 [(65536,0)] []]
def Bsa:List aA:=[D,D,D,D,P,P,A,O 10 70]
def Bsb:List aA:=[A,A,A,A,cf,cf,cf,Y 104,Y 3,Y 4,Y 4,Y 198,y,y,A,O 11 163,O 12 168,O 13 179,O 14 184,Y 3,Y 54,A,A,A,D,D,A,A,Y 119,P,A,A,O 15 4,O 16 54,O 17 4,D,D,D,D,P,P,A,O 18 70]
def Bi7:List aA:=[Y 3,Y 4,Y 4,Y 198,y,y,A,O 0 163,O 1 168,O 2 179,O 3 184,Y 3,Y 54,A,A,A]
def Bi8:List aA:=[D,D,D,D,P,P,A,O 4 70]
def Wy:List aA:=[Y 3,Y 4,Y 4,Y 198,y,y,A,O 0 163,O 1 168,O 2 179,O 3 184,Y 3,Y 54,A,A,A,O 4 79,O 5 82]
def Atd:List aA:=[D,D,D,D,P,P,A,O 12 70]
def Bav:List aA:=[Y 3,Y 4,Y 4,Y 198,y,y,A,O 13 163,O 14 168,O 15 179,O 16 184,Y 3,Y 54,A,A,A,O 17 79,O 18 82]
def Amf:List aA:=[D,D,D,D,P,P,A,Y 70]
def Bsc:List aA:=[D,D,P,D,D,P,A,A,P]
def cx:Ctx prog G:=⟨aD,Bsf,Bsi⟩
abbrev K:=Ha prog G
abbrev KS(l:List (Nat×Fe G)):=∀p∈l,Ha prog G p.1 p.2
abbrev LP:=Nat->St G->M (Ex×St G)
abbrev LK(f:Func)(lp:LP)(n:Nat):=LoopOK prog G f.ntmps (lp n) (Pi (BV f) n)
def aa{Q:Nat->Code->Prop}{n:Nat}{l l':List Code}(h':IT Q n l')(h:l=l':=by kernel_rfl):IT Q n l:=Al2 l' h h'
structure KP where
 g:Nat
 e:Fe G
 k:K g e
def KL(l:List KP):List<|Nat×Fe G:=l.map λp=>(p.g,p.e)
def KLs(l:List KP):KS<|KL l:=λp h=>by obtain⟨q,_,rfl⟩:=b6_.1 h;exact q.k
def lk0(l:List KP)(jn:Nat->Option SL){lp:LP}(n:Nat){nt k:Nat}{c:Code}(S:Sp)(E:SL)(L:S.T G->Option (Fp G E)){R:S.T G->Option (Sum (S.T G)<|Fp G E)}(hL:L=BM R DF:=by rfl)(hP:lp k=lpX S E L:=by kernel_rfl)(hin:IT (λk c=>LoopOK prog G nt (lp k) c) n<|Bt c:=by exact an0 κ)(hR:∀x,Ade (cfQ<|KL l) lp jn nt n c S E x=R x:=by intro x;kernel_rfl):LoopOK prog G nt (lp k) c:=lk cx (KLs l) jn n S E hL hP hin hR
def hq{g:Nat}{fn:Func}(_:prog.funcs[g]?=aB fn)(I:Sp)(E:SL)(F:I.F G<|Option<|Fp G E){e:Fe G}(p:K g e)(he:e=fe fn I E F:=by kernel_rfl):KP:=⟨g,fe fn I E F,he▸p⟩
section
variable{g:Nat}{fn:Func}(hfn:prog.funcs[g]?=aB fn)(I:Sp)(E:SL)(F:I.F G (Option (Fp G E)))(l:List KP)(jn:Nat->Option SL)
def fk1 (lp : LP) (hlp : IT (λk c => LoopOK prog G fn.ntmps (lp k) c) 0<|Bt<|BV fn) (hc : (!(fn.name == "runtime.NumGoroutine") && Nat.ble I.tm.length fn.ntmps) = true := by kernel_rfl) (p0 : fn.body = aB (BV fn) := by kernel_rfl) (hF : ∀ x, WM (cfQ<|KL l) lp jn fn.ntmps (BV fn) I E x = I.ap F x := by intro x; kernel_rfl) : KP := ⟨g, fe fn I E F, fk cx (KLs l) jn hfn hc p0 rfl hlp hF⟩
def fkl (S : Sp) (X : SL) (L : S.T G -> Option (Fp G X)) {R : S.T G -> Option (Sum (S.T G)<|Fp G X)} (hL : L = BM R DF := by rfl) (ho : Bt (BV fn) = [Pi (BV fn) 0] := by kernel_rfl) (hi : Bt (Pi (BV fn) 0) = [] := by kernel_rfl) (hR : ∀ x, Ade (cfQ<|KL l) (pl [lpX S X L]) jn fn.ntmps 1 (Pi (BV fn) 0) S X x = R x := by intro x; kernel_rfl) (hc : (!(fn.name == "runtime.NumGoroutine") && Nat.ble I.tm.length fn.ntmps) = true := by kernel_rfl) (hbody : fn.body = aB (BV fn) := by kernel_rfl) (hF : ∀ x, WM (cfQ<|KL l) (pl [lpX S X L]) jn fn.ntmps (BV fn) I E x = I.ap F x := by intro x; kernel_rfl) : KP := fk1 hfn I E F l jn (pl [lpX S X L]) (Al2 _ ho<|CN (lk cx (KLs l) jn 1 S X hL rfl (an0 hi) hR) Fw) hc hbody hF
def fkj (hlp : IT (λk c => LoopOK prog G fn.ntmps (pl [] k) c) 0 (Bt<|BV fn) := by exact an0 κ) (hc : (!(fn.name == "runtime.NumGoroutine") && Nat.ble I.tm.length fn.ntmps) = true := by kernel_rfl) (p0 : fn.body = aB (BV fn) := by kernel_rfl) (hF : ∀ x, WM (cfQ<|KL l) (pl []) jn fn.ntmps (BV fn) I E x = I.ap F x := by intro x; kernel_rfl) : KP := fk1 hfn I E F l jn (pl []) hlp hc p0 hF
def fk0 (hlp : IT (λk c => LoopOK prog G fn.ntmps (pl [] k) c) 0 (Bt<|BV fn) := by exact an0 κ) (hc : (!(fn.name == "runtime.NumGoroutine") && Nat.ble I.tm.length fn.ntmps) = true := by kernel_rfl) (p0 : fn.body = aB (BV fn) := by kernel_rfl) (hF : ∀ x, WM (cfQ<|KL l) (pl []) (U []) fn.ntmps (BV fn) I E x = I.ap F x := by intro x; kernel_rfl) : KP := fk1 hfn I E F l (U []) (pl []) hlp hc p0 hF
end
def Q0:=fkl func111 (N [B,B]) (z [(4,C 64)] [(64,c'0)]) Oz [] (U []) (Z [(0,B),(1,B),(4,C 64),(5,C 80),(6,B)] [(64,c'0),(80,c'1)]) [xh 0 [(4,C 64),(5,C 80)] [(64,c'0),(80,c'1)]] PO
def Q1:=fkl func61 (N [o1,o1]) (z [(4,C 64)] [(64,c'0)]) Ms [Q0] (U []) (Z [(1,o1),(4,C 64),(5,C 80),(6,B)] [(64,c'0),(80,c'1)]) [xh 0 [(1,o1),(4,C 64),(5,C 80)] [(64,c'0),(80,c'1)]] NT
def Q2:=fkl func27 (N [o1,o1]) (z [(4,C 64)] [(64,c'0)]) PG [Q1] (U []) (Z [(1,o1),(4,C 64),(5,C 80),(6,B)] [(64,c'0),(80,c'1)]) [xh 0 [(4,C 64),(5,C 80)] [(64,c'0),(80,c'1)]] NU
def Q3:=fkl func10 (N [J [c1,c1,c1]]) (z [(2,C 32)] [(32,c'0)]) Mt [Q2] (U []) (Z [(1,C 16),(2,C 32),(3,C 48),(4,B)] [(16,[c1,c1,c1]),(32,c'0),(48,c'1)]) [xh 0 [(2,C 32),(3,C 48)] [(32,c'0),(48,c'1)]] KG
def Q4:=fkj func62 (N [B,B,B]) (W [(6,H)]) Hr []<|U [(1,jn [(6,H)])]
def Q5:=fkl func63 (N [J c'2,J c'3]) (W [(4,H)]) Qv [Q4] (U [(9,jn [(4,H)])]) (Z [(2,C 32),(3,C 48),(5,ow 0 3),(6,B)] [(32,c'2),(48,c'3)]) [xh 0 [(2,C 32),(3,C 48)] [(32,c'2),(48,c'3)],rx [(4,H)]] RC
def Q6:=fkl func28 (N [J c'2]) (W [(2,B)]) Lo [Q4,Q5] (U [(5,jh [(1,C 16),(3,H)] [(16,c'2)]),(9,jh [(1,C 16),(3,H),(4,B)] [(16,c'2)])]) (Z [(1,C 16),(3,H),(4,B)] [(16,c'2)]) [xh 0 [(1,C 16),(3,H)] [(16,c'2)]] RB
def Q7:=fk0 func29 (N [J c'2,B]) (W [(4,B)]) Ny [Q6]
def Bh5:Sp:=Z [(1,C 16),(2,C 32),(3,B)] [(16,c'0),(32,c'1)]
def Bin:SL:=[xh 0 [(1,C 16),(2,C 32)] [(16,c'0),(32,c'1)]]
def Bh6:Sp:=Z [(1,C 16),(2,C 32),(5,B)] [(16,c'0),(32,c'1)]
def Bio:SL:=[xh 2 [(1,C 16),(2,C 32)] [(16,c'0),(32,c'1)]]
def t8:List KP:=[Q6,Q7]
def P8:LP:=pl [lpX Bh5 Bin Nf,lpX Bh6 Bio Ng]
def Bsm:LK f11 P8 1:=lk0 t8 (U []) 2 Bh6 Bio Ng
def Bsl:LK f11 P8 0:=lk0 t8 (U []) 1 Bh5 Bin Nf
def Q8:=fk1 func11 (N [J c'2]) (z [(2,C 32)] [(32,c'2)]) Ub t8 (U []) P8<|aa<|CN Bsl<|CN Bsm Fw
def Q9:=fkj func4 (N [J [c1,c1,c1]]) (z [(2,C 32)] [(32,c'2)]) Fv [Q3,Q8]<|U [(1048579,jh [(2,C 32),(3,C 48)] [(32,c'0),(48,c'2)])]
def Q10:=fkl func6 (N [J c'2,o1]) (W [(4,ow 0 3)]) GV [] (U []) (Z [(1,o1),(2,C 32),(5,ow 0 3),(6,B)] [(32,c'2)]) [xt 0 [(5,ow 0 3)]] PP
def Q11:=fkl func64 (N [B,B,V 3]) (W [(6,H)]) BK [] (U []) (sp [(0,B),(1,B),(9,V 3),(10,B),(11,B)]) [xt 0 [],rx [(6,H)]] Ls
def Q12:=fkj func65 (N [J c'3,B]) (W [(4,H)]) Kw [Q11]<|U [(1,jn [(4,H)])]
def Q13:=fkj func66 (N [J c'2]) (W [(2,H)]) Kv []<|U [(1,jn [(2,H)])]
def Q14:=fkl func30 (N [J c'2]) (W [(2,B)]) Au [Q11,Q12,Q13] (U [(5,jh [(1,C 16),(3,H)] [(16,c'2)]),(9,jh [(1,C 16),(3,H),(28,V 104),(29,B),(30,B)] [(16,c'2)])]) (Z [(1,C 16),(3,H),(28,V 104),(29,B),(30,B)] [(16,c'2)]) [xh 0 [(1,C 16),(3,H)] [(16,c'2)]] Mb
def Q15:=fk0 func136 (N [J c'2]) (z [(2,C 32)] [(32,c'4)]) Nt [Q14]
def Q16:=fk0 func138 (N [J [y,y,A]]) (W [(2,os)]) Je []
def Bdb:Sp:=sp [(0,os),(3,o1),(7,B),(8,B)]
def Bdr:SL:=[xt 0 [(3,o1)]]
def Bdc:Sp:=sp [(0,os),(3,o1),(7,B),(8,B),(16,B)]
def Bds:SL:=[xt 2 [(0,os),(3,o1),(7,B),(8,B)]]
def P17:LP:=pl [lpX Bdb Bdr OF,lpX Bdc Bds OG]
def Bea:LK f189 P17 1:=lk0 [] (U []) 2 Bdc Bds OG
def Bmg:LK f189 P17 0:=lk0 [] (U []) 1 Bdb Bdr OF (hin:=(aa<|CN Bea Fw))
def Q17:=fk1 func189 (N [os]) (W [(2,o1)]) Ou [] (U []) P17<|aa<|CN Bmg<|CN Bea Fw
def Q18:=fkj func149 (N [B,B,B]) (W [(6,H)]) Jz [Q11]<|U [(1,jn [(6,H)])]
def Q19:=fkj func120 (N [J c'2,B,B]) (W [(6,H)]) Gb [Q14,Q18]<|U [(1,jn [(6,H)])]
def Q20:=fkj func235 (N [B,B,B]) (W [(6,H)]) FL []<|U [(1,jn [(6,H)])]
def Q21:=fkj func188 (N [J c'2,J [A,A,A,A,A]]) (W [(4,H)]) HO [Q14,Q19,Q20]<|jm [8,10,12,14,17] (jn [(4,H)])<|U [(4,jh [(2,C 32),(3,C 48),(5,H),(6,H)] [(32,c'2),(48,[A,A,A,A,A])])]
def Q22:=fk0 func181 (N [J c'2,os]) (z [(4,C 64),(5,B)] [(64,[A,A,A,A,A])]) LG [Q14,Q17,Q21]
def Q23:=fkl func137 (N [J c'2,os]) (W [(4,ow 0 243),(5,B)]) Nz [Q22] (U []) (Z [(1,os),(2,C 32),(6,ow 0 243),(7,B)] [(32,c'2)]) [xt 0 [(6,ow 0 243),(7,B)]] OK
def Q24:=fk0 func195 (N [B]) (W [(2,H)]) Lz []
def Q25:=fk0 func151 (N [B,B]) (W [(4,B)]) EL [Q24]
def Q26:=fkl func150 (N [V 3]) (W [(2,B)]) LU [] (U []) (sp [(3,B),(6,V 3),(7,B),(8,B)]) [xt 0 [(3,B)],rx [(2,B)]] PN
def Q27:=fk0 func148 (N [J [A,A,A,A,P],J [A,A,A,A,P]]) (W [(4,B)]) IK [Q25,Q26]
def Q28:=fkl func232 (N [V 198,J [A,A,A,A,P],.one<|.clo 148 [] []]) (W [(6,B),(7,H)]) AZ [Q27] (U [(8,jn [(6,B),(7,H)])]) (Z [(0,V 198),(2,.one<|.clo 148 [] []),(4,C 64),(8,B),(9,B),(10,B)] [(64,[A,A,A,A,P])]) [xh 0 [(0,V 198),(2,.one<|.clo 148 [] []),(4,C 64),(8,B),(9,B)] [(64,[A,A,A,A,P])]] AW
def Q29:=fk0 func182 (N [J c'5,B,B]) (W [(6,B),(7,H)]) OC [Q28]
def Q30:=hq func183 (sp [(0,ow 0 198),(1,B),(2,ow 1 198)]) (W [(6,ow 0 198)]) Ed<|Acu (r:=6) (t:=198) aD ⟨_,Tryz.func183,κ,κ⟩ (by intro h;cases h) (λ_=>rfl)<|Acq
def Q31:=hq func184 (sp [(0,ow 0 198),(1,B),(2,B)]) (W [(6,ow 0 198)]) Ec<|Am3 (r:=6) (t:=198) aD ⟨_,Tryz.func184,κ,κ⟩ (by intro h;cases h) (λ_=>rfl)<|Ace
def Q32:=fk0 func139 (Z [(0,C 65536),(1,J [A,A,A,A,A])] [(65536,c'4)]) (nu [] [(65536,c'4)]) LW [Q29,Q30,Q31]
def Q33:=fkl func112 (N [J c'2,J [y,y,A]]) (z [(4,C 64)] [(64,c'4)]) OB [Q15,Q16,Q23,Q32] (U []) (Z [(4,C 64),(5,C 80),(19,ow 0 243),(20,B),(21,B)] [(64,c'6),(80,c'7)]) [xh 0 [(4,C 64),(5,C 80)] [(64,c'4),(80,c'8)]] PS
def Q34:=fkj func77 (N [B,J [y,y,A]]) (W [(4,H)]) EU []<|U [(1,jn [(4,H)])]
def Q35:=fkj func147 (N [J c'2,J [A,A,A,A,P]]) (W [(4,H)]) Nv [Q19]<|U [(1,jn [(4,H)])]
def Bdd:Sp:=Z [(2,C 32),(3,C 48),(38,V 3),(39,B),(40,B)] [(32,c'2),(48,c'5)]
def Bdt:SL:=[xh 0 [(2,C 32),(3,C 48)] [(32,c'2),(48,c'5)],rx [(4,H)]]
def Bde:Sp:=Z [(2,C 32),(3,C 48),(52,V 198),(53,B),(54,B)] [(32,c'2),(48,c'5)]
def Bdu:SL:=[xt 2 [],rx [(4,H)]]
def J36:=U [(13,jh [(2,C 32),(3,C 48),(52,V 198),(53,B),(54,B),(77,H)] [(32,c'2),(48,c'5)])]
def t36:List KP:=[Q14,Q35,Q27]
def P36:LP:=pl [lpX Bdd Bdt LJ,lpX Bde Bdu LL]
def Bmi:LK f117 P36 1:=lk0 t36 J36 2 Bde Bdu LL
def Bmh:LK f117 P36 0:=lk0 t36 J36 1 Bdd Bdt LJ
def Q36:=fk1 func117 (N [J c'2,J c'5]) (W [(4,H)]) Ct t36 J36 P36<|aa<|CN Bmh<|CN Bmi Fw
def Q37:=fk0 func185 (Z [(0,B),(1,B),(2,C 65536),(3,C 65537)] [(65536,[O 0 243]),(65537,[A])]) [(.normal,⟨[],[(65536,[O 0 243]),(65537,[A])],[65536,65537]⟩)] HY []
def Q38:=fk0 func186 (N [H]) (W [(2,B)]) JO []
def Q39:=fk0 func187 (Z [(0,B),(1,B),(2,B),(3,C 65536),(4,C 65537)] [(65536,[O 0 243]),(65537,[A,A,A,A,P])]) [(.normal,⟨[],[(65536,[O 0 243]),(65537,[A,A,A,A,P])],[65536,65537]⟩)] HZ []
def Bdf:Sp:=Z [(3,C 48),(5,C 80),(17,B),(18,B)] [(48,c'5),(80,[O 0 243])]
def Bdv:SL:=[xh 0 [(3,C 48),(5,C 80)] [(48,c'5),(80,[O 0 243])]]
def Bdg:Sp:=Z [(5,C 80),(47,V 198),(48,B),(49,B)] [(80,[O 0 243])]
def Bdw:SL:=[xh 2 [(5,C 80)] [(80,[O 0 243])]]
def t40:List KP:=[Q36,Q37,Q38,Q39]
def P40:LP:=pl [lpX Bdf Bdv KH,lpX Bdg Bdw KI]
def Bmk:LK f140 P40 1:=lk0 t40 (U []) 2 Bdg Bdw KI
def Bmj:LK f140 P40 0:=lk0 t40 (U []) 1 Bdf Bdv KH
def Q40:=fk1 func140 (N [J c'2,J c'5]) (W [(4,ow 0 243)]) Mv t40 (U []) P40<|aa<|CN Bmj<|CN Bmk Fw
def Q41:=fk0 func141 (N [J c'2,J [A,A,A,A,A]]) (W [(4,os),(5,B)]) IZ [Q21,Q17]
def Q42:=hq func142 (Z [(0,C 65536),(1,os)] [(65536,c'9)]) (ru [(4,B),(5,.one .nili)] [(65536,c'9)]) Et<|Bgl (tb:=248) (te:=5) aD ⟨_,Tryz.func142,κ,κ⟩ (by intro h;cases h) (λ_=>rfl) κ (r0:=4) (r1:=5) τ (ofB:=λb=>(b.toNat:Int)) (λ_=>rfl) (λb w a0 v ha hb n xs ho hne s h=>Aq0 b w a0 v ha hb n xs ho hne s h)
def Q43:=fkj func193 (N [B,J [y,y,A],B,B]) (W [(8,B)]) IM [Q34]<|U [(3,jn [(3,B),(14,H)])]
def Q44:=fk0 func192 (Z [(0,C 65536),(1,C 65537)] [(65536,[y,y,A]),(65537,[A])]) [(.normal,⟨[],[(65536,[y,y,A]),(65537,[A])],[65536,65537]⟩)] Ud []
def Q45:=fk0 func191 (Z [(0,B),(1,J [y,y,A]),(2,B),(3,B),(4,.one<|.clo 192 [] [(65536,0)])] [(65536,[A])]) (ru [(10,C 160),(11,B),(12,B)] [(160,[y,y,A]),(65536,[A])]) Ht [Q43,Q44]
def Q46:=fk0 func143 (N [B,J [y,y,A],B,B]) (z [(8,C 128),(9,B),(10,B)] [(128,[y,y,A])]) NB [Q45]
def Q47:=hq func145 (Z [(0,C 65536)] [(65536,c'9)]) (ru [(2,os)] [(65536,[.np 65536 248,Y 5])]) FN<|Bc1 (tb:=248) (te:=5) aD ⟨_,Tryz.func145,κ,κ⟩ (by intro h;cases h) κ (r0:=2) (λ_=>rfl) (λb w a0 g0 cap cur l h0 hb hg hn hc h63 hx=>Aqw b w a0 g0 cap cur l h0 hb hg hn hc h63 hx)
def Q48:=fk0 func144 (N [B,J [y,y,A],B,os,B]) (z [(10,C 160),(11,B),(12,B)] [(160,[y,y,A])]) Lg [Q43]
def Q49:=fk0 func194 (Z [(0,C 65536),(1,C 65537)] [(65536,[y,y,A]),(65537,[A])]) [(.normal,⟨[],[(65536,[y,y,A]),(65537,[A])],[65536,65537]⟩)] NQ []
def Q50:=fk0 func191 (Z [(0,B),(1,J [y,y,A]),(2,B),(3,B),(4,.one<|.clo 194 [] [(65536,0)])] [(65536,[A])]) (ru [(10,C 160),(11,B),(12,B)] [(160,[y,y,A]),(65536,[A])]) GZ [Q43,Q49]
def Q51:=fk0 func146 (N [B,J [y,y,A],B,B]) (z [(8,C 128),(9,B),(10,B)] [(128,[y,y,A])]) My [Q50]
def Q52:=fkl func113 (N [J c'2,J [y,y,A],J c'5,B]) (z [(8,C 128),(9,B),(10,B)] [(128,[y,y,A])]) KZ [Q34,Q36,Q40,Q41,Q42,Q46,Q47,Q48,Q51] (jl [(15,jh [(3,B),(4,C 64),(5,C 80),(8,C 128),(16,B),(17,B)] [(64,c'2),(80,[y,y,A]),(128,[y,y,A])])]) (Z [(3,B),(4,C 64),(5,C 80),(8,C 128),(11,C 176),(36,ow 0 243),(37,B),(38,B)] [(64,c'2),(80,[y,y,A]),(128,[y,y,A]),(176,[.np 176 248,O 1 5])]) [xh 0 [(3,B),(4,C 64),(5,C 80),(8,C 128),(11,C 176)] [(64,c'2),(80,[y,y,A]),(128,[y,y,A]),(176,[.np 176 248,O 0 5])]] OI
def Q53:=fk0 func67 (N [J c'2,J [y,y,A],B]) (z [(6,C 96),(7,C 112),(8,B),(9,B)] [(96,[y,y,A]),(112,c'4)]) Nu [Q33,Q52]
def Q54:=fkj func76 (N [J c'2,J c'5]) (W [(4,H)]) JV [Q36]<|U [(1,jn [(4,H)])]
def Q55:=hq func96 (sp [(0,V 3)]) (W [(2,ow 0 3)]) Be<|Ke (r:=2) (t:=3) aD ⟨_,Tryz.func96,κ,κ⟩ (tS:=29) (size:=1) (bytes:=Tryz.t3.bytes) κ κ (E_ κ) Ap5 Ato
def Q56:=hq func97 (sp [(0,V 4)]) (W [(2,ow 0 4)]) AG<|Ke (r:=2) (t:=4) aD ⟨_,Tryz.func97,κ,κ⟩ (tS:=30) (size:=1) (bytes:=Tryz.t4.bytes) κ κ (E_ κ) Ap6 Atp
def Q57:=hq func98 (sp [(0,V 198)]) (W [(2,ow 0 198)]) AM<|Ke (r:=2) (t:=198) aD ⟨_,Tryz.func98,κ,κ⟩ (tS:=31) (size:=5) (bytes:=Tryz.t198.bytes) κ κ (E_ κ) Ap7 Atq
def Q58:=fk0 func114 (N [J c'5]) (z [(2,C 32)] [(32,c'4)]) KC [Q55,Q56,Q57]
def Q59:=fk0 func115 (N []) (z [(0,C 0)] [(0,Vh)]) Ot []
def Bdh:Sp:=Z [(3,C 48),(4,C 64),(6,C 96),(9,C 144),(42,B),(43,B)] [(48,c'2),(64,c'5),(96,Qe),(144,Ab8)]
def Bdx:SL:=[xh 0 [(3,C 48),(4,C 64),(6,C 96),(9,C 144)] [(48,c'2),(64,c'5),(96,Qe),(144,Ab8)]]
def Bdi:Sp:=Z [(3,C 48),(6,C 96),(9,C 144),(53,V 198),(54,B),(55,B)] [(48,c'2),(96,Qe),(144,Ab8)]
def Bdy:SL:=[xh 2 [(6,C 96),(9,C 144)] [(96,Qe),(144,Ab8)]]
def J60:=jl [(16,jh [(3,C 48),(6,C 96),(9,C 144),(12,B),(53,V 198),(54,B),(55,B)] [(48,c'2),(96,Qe),(144,Ab8)])]
def t60:List KP:=[Q54,Q34,Q58,Q59]
def P60:LP:=pl [lpX Bdh Bdx JD,lpX Bdi Bdy JE]
def Bmm:LK f68 P60 1:=lk0 t60 J60 2 Bdi Bdy JE
def Bml:LK f68 P60 0:=lk0 t60 J60 1 Bdh Bdx JD
def Q60:=fk1 func68 (N [J c'2,J c'5,J [y,y,A]]) (z [(6,C 96),(7,B)] [(96,Qe)]) LH t60 J60 P60<|aa<|CN Bml<|CN Bmm Fw
def Q61:=fkj func31 (N [J c'2,J [y,y,A],B]) (z [(6,C 96),(7,B),(8,B)] [(96,Qe)]) JU [Q53,Q60]<|U [(1048580,jh [(3,C 48),(4,C 64),(6,C 96),(9,C 144),(10,B)] [(48,c'2),(64,[y,y,A]),(96,Qe),(144,c'5)])]
def Q62:=fk0 func12 (N [J c'2]) (z [(2,C 32),(3,B)] [(32,Qe)]) LI [Q14,Q61]
def Q63:=fkj func14 (Z [(0,B),(1,C 65536)] [(65536,c'2)]) (ru [(3,H)] [(65536,c'2)]) Gr []<|U [(1,nu [(3,H)] [(65536,c'2)])]
def Q64:=fkl func32 (Z [(0,V 3),(1,.one<|.clo 14 [] [(65536,0)])] [(65536,c'2)]) (ru [(4,B)] [(65536,c'2)]) EE [Q63] (U []) (su [(0,V 3),(1,.one<|.clo 14 [] [(65536,0)]),(7,B),(8,B)] [(65536,c'2)]) [xu 0 [] [(65536,c'2)],ry [(4,B)] [(65536,c'2)]] Eo
def Q65:=fk0 func13 (Z [(0,V 3),(1,.one<|.clo 14 [] [(65536,0)])] [(65536,c'2)]) (ru [(4,H)] [(65536,c'2)]) Cl [Q64]
def Q66:=fk0 func15 (N [B]) (z [(2,C 32)] [(32,Jr)]) Na []
def Q67:=fk0 func16 (N [B]) (z [(2,C 32)] [(32,Kb)]) Uc []
def Q68:=fkl func5 (N [J c'2,V 3]) (z [(4,C 64),(5,B)] [(64,Ab9)]) Jd [Q62,Q65,Q66,Q67] (U []) (Z [(4,C 64),(8,C 128),(34,V 3),(35,B),(36,B)] [(64,Ab9),(128,Bi1)]) [xh 0 [(4,C 64),(8,C 128)] [(64,Ab9),(128,Bi1)]] Tb
def Q69:=fkj func106 (N [J c'2,B,B]) (W [(6,H)]) LX [Q6,Q4]<|U [(3,jn [(6,H)])]
def Q70:=fkl func58 (N [J c'2]) (z [(2,C 32)] [(32,[D,D])]) Sa [Q69] (jl [(8,jh [(1,C 16),(2,C 32),(3,C 48),(4,B)] [(16,c'2),(32,[D,D]),(48,[D,D])])]) (Z [(1,C 16),(2,C 32),(3,C 48),(4,B)] [(16,c'2),(32,[D,D]),(48,[D,D])]) [xh 0 [(2,C 32),(3,C 48)] [(32,[D,D]),(48,[D,D])]] Ta
def Q71:=fk0 func59 (N [J [D,D],J [D,D]]) (z [(4,C 64)] [(64,[D,D])]) Sb []
def Q72:=fkl func25 (N [J c'2,J [c1,c1,c1,c1,c1]]) (z [(4,C 64)] [(64,Wx)]) RZ [Q70,Q71] (jl [(6,jh [(2,C 32),(3,C 48),(4,C 64),(5,C 80)] [(32,c'2),(48,[c1,c1,c1,c1,c1]),(64,Wx),(80,Ame)]),(8,jh [(2,C 32),(3,C 48),(4,C 64),(5,C 80)] [(32,c'2),(48,[c1,c1,c1,c1,c1]),(64,Wx),(80,Ame)]),(1048581,jh [(2,C 32),(3,C 48),(4,C 64),(5,C 80),(41,H)] [(32,c'2),(48,[c1,c1,c1,c1,c1]),(64,Wx),(80,Ame)])]) (Z [(2,C 32),(3,C 48),(4,C 64),(5,C 80),(7,B)] [(32,c'2),(48,[c1,c1,c1,c1,c1]),(64,Wx),(80,Ame)]) [xh 0 [(4,C 64),(5,C 80)] [(64,Wx),(80,Ame)]] SZ
def Q73:=fkl func8 (N [J c'2,V 5,B]) (z [(6,C 96)] [(96,Wx)]) GW [Q72] (U []) (Z [(1,V 5),(2,B),(3,C 48),(6,C 96),(7,C 112),(8,B)] [(48,c'2),(96,Wx),(112,[c1,c1,c1,c1,c1])]) [xh 0 [(3,C 48),(6,C 96),(7,C 112)] [(48,c'2),(96,Wx),(112,[c1,c1,c1,c1,c1])]] PQ
def Q74:=fkj func118 (N [B]) (W [(2,H)]) Jb []<|U [(1,jn [(2,H)])]
def Q75:=fkl func32 (N [V 3,.one<|.clo 118 [] []]) (W [(4,B)]) CK [Q74] (U []) (sp [(0,V 3),(1,.one<|.clo 118 [] []),(7,B),(8,B)]) [xt 0 [],rx [(4,B)]] CA
def Q76:=fk0 func13 (N [V 3,.one<|.clo 118 [] []]) (W [(4,H)]) Cq [Q75]
def Q77:=fk0 func78 (N [V 3]) (W [(2,H)]) Ib [Q76]
def Q78:=fkl func81 (N [B,J Vi]) (W [(4,H)]) EN [] (U []) (sp [(0,B),(14,J Br5),(15,B)]) [xt 0 [],rx [(4,H)]] Iw
def Q79:=fk0 func80 (Z [(0,B),(1,J Vi),(2,C 65536)] [(65536,c'2)]) (ru [(5,H)] [(65536,c'2)]) Gx [Q78]
def Q80:=fkl func79 (Z [(0,V 163),(1,B),(2,.one<|.clo 80 [] [(65536,0)])] [(65536,c'2)]) (ru [(6,H)] [(65536,c'2)]) Bd [Q79] (U []) (su [(2,.one<|.clo 80 [] [(65536,0)]),(13,V 163),(14,B),(15,B)] [(65536,c'2)]) [xu 0 [] [(65536,c'2)],ry [(6,H)] [(65536,c'2)]] BA
def Q81:=fkj func119 (N [B,B,B]) (W [(6,H)]) Ee []<|U [(1,jn [(6,H)])]
def Q82:=fk0 func121 (N [J [A,A,A],J [A,A,A]]) (W [(4,B)]) Db [Q25,Q26]
def Q83:=fkl func84 (N [J c'2,B,J To]) (W [(6,H)]) Cy [Q14,Q81,Q19,Q82] (U [(1,jh [(1,B),(3,C 48),(5,C 80),(57,H)] [(48,c'2),(80,To)]),(6,jh [(1,B),(3,C 48),(5,C 80),(59,V 202),(60,B),(61,B),(99,H)] [(48,c'2),(80,To)])]) (Z [(1,B),(3,C 48),(5,C 80),(59,V 202),(60,B),(61,B)] [(48,c'2),(80,To)]) [xt 0 [],rx [(6,H)]] Ma
def Q84:=fk0 func83 (Z [(0,B),(1,J To),(2,C 65536)] [(65536,c'2)]) (ru [(5,H)] [(65536,c'2)]) Gy [Q83]
def Q85:=fkl func82 (Z [(0,V 168),(1,B),(2,.one<|.clo 83 [] [(65536,0)])] [(65536,c'2)]) (ru [(6,H)] [(65536,c'2)]) Bg [Q84] (U []) (su [(2,.one<|.clo 83 [] [(65536,0)]),(13,V 168),(14,B),(15,B)] [(65536,c'2)]) [xu 0 [] [(65536,c'2)],ry [(6,H)] [(65536,c'2)]] BS
def Q86:=fkj func101 (N [J [A,A]]) (W [(2,H)]) Bm []<|U [(1,jn [(2,H)])]
def Q87:=fkj func152 (N [B]) (W [(2,H)]) HJ []<|U [(1,jn [(2,H)])]
def Q88:=fkj func122 (N [J [A,A,A,P,A]]) (W [(2,H)]) Gs [Q87]<|U [(3,jn [(2,H)])]
def Q89:=fkj func153 (N [B,B,B]) (W [(6,B),(7,H)]) Ef []<|U [(1,jn [(0,B),(1,B),(2,B),(14,H)]),(4,jn [(6,B),(7,H)])]
def Q90:=fk0 func123 (N [B,J [A,A,A]]) (W [(4,H)]) Gu [Q89]
def Q91:=fkj func87 (N [J c'2,J Mg]) (W [(4,H)]) Fm [Q14,Q86,Q88,Q90]<|U [(1,jh [(2,C 32),(3,C 48),(16,H)] [(32,c'2),(48,Mg)]),(3,jh [(2,C 32),(3,C 48),(46,H)] [(32,c'2),(48,Mg)]),(5,jn [(4,H)])]
def Q92:=fk0 func86 (Z [(0,B),(1,J Mg),(2,C 65536)] [(65536,c'2)]) (ru [(5,H)] [(65536,c'2)]) Gz [Q91]
def Q93:=fkl func85 (Z [(0,V 179),(1,B),(2,.one<|.clo 86 [] [(65536,0)])] [(65536,c'2)]) (ru [(6,H)] [(65536,c'2)]) Bh [Q92] (U []) (su [(2,.one<|.clo 86 [] [(65536,0)]),(13,V 179),(14,B),(15,B)] [(65536,c'2)]) [xu 0 [] [(65536,c'2)],ry [(6,H)] [(65536,c'2)]] BT
def Q94:=fkj func89 (N [B,J [A]]) (W [(4,H)]) Hh []<|U [(1,jn [(4,H)])]
def Q95:=fkl func88 (N [V 184,B,.one<|.clo 89 [] []]) (W [(6,H)]) BD [Q94] (U []) (sp [(2,.one<|.clo 89 [] []),(13,V 184),(14,B),(15,B)]) [xt 0 [],rx [(6,H)]] CF
def Q96:=fkj func42 (N [J c'2,J Aca]) (W [(4,H)]) Gq [Q54,Q34,Q77,Q80,Q85,Q93,Q95]<|U [(8,jn [(4,H)])]
def Q97:=fkj func71 (N [B,B,B]) (W [(6,H)]) EG []<|U [(1,jn [(6,H)])]
def Q98:=fk0 func102 (N [J Jr]) (W [(2,B)]) Hs []
def Q99:=fk0 func48 (N [J c'2]) (z [(2,C 32)] [(32,[D,D])]) Dx [Q14]
def Alt:=fk0 func50 (N [J [D,D],J [D,D]]) (z [(4,C 64)] [(64,[D,D])]) Fb []
def Bgt:=fk0 func103 (N [B]) (W [(2,B)]) LY []
def Bgu:=fkj func45 (N [J c'2,J Jr]) (W [(4,H)]) Ja [Q14,Q97,Q86,Q98,Q99,Alt,Bgt]<|U [(3,jh [(2,C 32),(3,C 48),(49,H)] [(32,c'2),(48,Jr)]),(5,jh [(3,C 48),(5,H)] [(48,Jr)]),(6,jn [(4,H)])]
def Bm4:=fk0 func108 (Z [(0,J Jr),(1,C 65536)] [(65536,c'2)]) (ru [(3,H)] [(65536,c'2)]) IE [Bgu]
def Bm5:=fkl func134 (Z [(0,V 79),(1,.one<|.clo 108 [] [(65536,0)])] [(65536,c'2)]) (ru [(4,B)] [(65536,c'2)]) CE [Bm4] (U []) (su [(0,V 79),(1,.one<|.clo 108 [] [(65536,0)]),(7,B),(8,B)] [(65536,c'2)]) [xu 0 [] [(65536,c'2)],ry [(4,B)] [(65536,c'2)]] Cu
def Bm6:=fk0 func107 (Z [(0,V 79),(1,.one<|.clo 108 [] [(65536,0)])] [(65536,c'2)]) (ru [(4,H)] [(65536,c'2)]) Bf [Bm5]
def Bgv:=fkj func55 (N [B,B,B]) (W [(6,H)]) DO []<|U [(1,jn [(6,H)])]
def Bgw:=fkj func52 (N [B,J Kb]) (W [(4,H)]) Ld [Bgv]<|U [(3,jh [(3,C 48),(60,H)] [(48,Kb)]),(6,jn [(4,H)]),(7,jn [(4,H)])]
def Bm7:=fk0 func110 (Z [(0,J Kb),(1,C 65536)] [(65536,c'2)]) (ru [(3,H)] [(65536,c'2)]) IF [Bgw]
def Bm8:=fkl func135 (Z [(0,V 82),(1,.one<|.clo 110 [] [(65536,0)])] [(65536,c'2)]) (ru [(4,B)] [(65536,c'2)]) Da [Bm7] (U []) (su [(0,V 82),(1,.one<|.clo 110 [] [(65536,0)]),(7,B),(8,B)] [(65536,c'2)]) [xu 0 [] [(65536,c'2)],ry [(4,B)] [(65536,c'2)]] CL
def Bm9:=fk0 func109 (Z [(0,V 82),(1,.one<|.clo 110 [] [(65536,0)])] [(65536,c'2)]) (ru [(4,H)] [(65536,c'2)]) Bl [Bm8]
def Bna:=fkj func60 (N [J c'2,J RF]) (W [(4,H)]) PL [Q14,Bm6,Bm9]<|U [(3,jn [(4,H)])]
def Q112:=fkj func26 (N [J c'2,J RF]) (W [(4,H)]) IL [Q96,Bna]<|U [(1,jn [(4,H)])]
def Bnb:=fk0 func70 (Z [(0,o4),(1,C 65536)] [(65536,c'2)]) (ru [(3,H)] [(65536,c'2)]) FM []
def Bnc:=fkl func116 (Z [(0,V 52),(1,.one<|.clo 70 [] [(65536,0)])] [(65536,c'2)]) (ru [(4,B)] [(65536,c'2)]) DI [Bnb] (U []) (su [(0,V 52),(1,.one<|.clo 70 [] [(65536,0)]),(7,B),(8,B)] [(65536,c'2)]) [xu 0 [] [(65536,c'2)],ry [(4,B)] [(65536,c'2)]] Dv
def Bnd:=fk0 func69 (Z [(0,V 52),(1,.one<|.clo 70 [] [(65536,0)])] [(65536,c'2)]) (ru [(4,H)] [(65536,c'2)]) Bz [Bnc]
def Bne:=fkj func33 (N [J c'2,J Vj]) (W [(4,H)]) Va [Q99,Alt,Bnd]<|U [(4,jh [(2,C 32),(3,C 48),(75,H)] [(32,c'2),(48,Vj)])]
def Bnf:=fkj func34 (N [J Jr]) (z [(2,C 32)] [(32,[D,P,P,P,P])]) Ia [Q97]<|U [(2,jh [(1,C 16),(2,C 32),(3,C 48),(24,H)] [(16,Jr),(32,[D,P,P,P,P]),(48,[D,P,P,P,P])])]
def Bng:=fk0 func35 (N [J Kb,H]) (z [(4,C 64)] [(64,[A,P,A,P])]) Yg []
def Bnh:=fkl func17 (N [J c'2,J RF,J Vj]) (z [(6,C 96),(7,B)] [(96,Yx)]) Lf [Q112,Bne,Bnf,Bng] (U []) (Z [(4,C 64),(5,C 80),(6,C 96),(8,C 128),(28,B),(29,B)] [(64,RF),(80,Vj),(96,Yx),(128,Bi2)]) [xh 0 [(6,C 96),(8,C 128)] [(96,Yx),(128,Bi2)]] LM
def Bgx:=fkj func72 (N [J c'2,J [D,D]]) (W [(4,H)]) LC [Q99]<|U [(2,jn [(4,H)])]
def Bgy:=fkj func73 (N [B,B]) (W [(4,H)]) HK []<|U [(1,jn [(4,H)])]
def Bni:=fkj func74 (N [J c'2,J Br6]) (W [(4,H)]) Ow [Bgy]<|U [(2,jn [(4,H)])]
def Bnj:=fkl func36 (N [J c'2,J Bau]) (W [(4,H)]) Ox [Bgx,Bgy,Bni] (U [(2,jh [(2,C 32),(3,C 48),(49,H)] [(32,c'2),(48,Bau)])]) (Z [(2,C 32),(51,V 119),(52,B),(53,B)] [(32,c'2)]) [xt 0 [],rx [(4,H)]] VD
def Azy:=fkl func38 (Z [(0,C 65536),(1,Ac5),(2,B)] [(65536,[O 0 5])]) (nu [] [(65536,[O 0 5])]) Bu [] (U []) (su [(0,C 65536),(1,Ac5),(6,B),(7,B)] [(65536,[O 0 5])]) [xu 0 [] [(65536,[O 0 5])]] OH
def Bnk:=fkl func37 (Z [(0,C 65536),(1,V 54)] [(65536,[O 0 5])]) (nu [] [(65536,[O 0 5])]) Ky [Azy] (U []) (su [(0,C 65536),(6,V 54),(7,B),(8,B)] [(65536,[O 0 5])]) [xu 0 [] [(65536,[O 0 5])]] Nc
def Bnl:=fkl func39 (Z [(0,C 65536),(1,V 4)] [(65536,[O 0 5])]) (nu [] [(65536,[O 0 5])]) Kz [Azy] (U []) (su [(0,C 65536),(4,Ac5),(7,V 4),(8,B),(9,B)] [(65536,[O 0 5])]) [xu 0 [(0,C 65536),(4,Ac5)] [(65536,[O 0 5])]] Nd
def Av3:Sp:=sp [(0,os),(3,.one<|.int .u16),(7,B),(8,B)]
def Awc:SL:=[xt 0 [(3,.one<|.int .u16)]]
def Av4:Sp:=sp [(0,os),(3,.one<|.int .u16),(7,B),(8,B),(18,B)]
def Awd:SL:=[xt 2 [(0,os),(3,.one<|.int .u16),(7,B),(8,B)]]
def Azv:LP:=pl [lpX Av3 Awc RA,lpX Av4 Awd NC]
def Axt:LK f75 Azv 1:=lk0 [] (U []) 2 Av4 Awd NC
def Bjx:LK f75 Azv 0:=lk0 [] (U []) 1 Av3 Awc RA (hin:=(aa<|CN Axt Fw))
def Bnm:=fk1 func75 (N [os]) (W [(2,.one<|.int .u16)]) UX [] (U []) Azv<|aa<|CN Bjx<|CN Axt Fw
def Bgz:=fk0 func41 (N [os]) (W [(2,os)]) RY [Bnm]
def Bnn:=fkl func18 (N [J c'2,J Bau]) (W [(4,os),(5,B)]) Wn [Q14,Bnj,Bnk,Azy,Bnl,Bgz] (U []) (Z [(6,C 416),(45,V 119),(46,B),(47,B)] [(416,[O 0 5])]) [xh 0 [(6,C 416)] [(416,[O 0 5])]] SY
def Bno:=hq func19 (sp [(0,V 79)]) (W [(2,ow 0 79)]) GM<|Ke (r:=2) (t:=79) aD ⟨_,Tryz.func19,κ,κ⟩ (tS:=44) (size:=9) (bytes:=Tryz.t79.bytes) κ κ (E_ κ) Apz Ati
def Bnp:=hq func20 (sp [(0,V 82)]) (W [(2,ow 0 82)]) HH<|Ke (r:=2) (t:=82) aD ⟨_,Tryz.func20,κ,κ⟩ (tS:=45) (size:=6) (bytes:=Tryz.t82.bytes) κ κ (E_ κ) Ap0 Atj
def Bg0:=hq func91 (sp [(0,V 163)]) (W [(2,ow 0 163)]) CS<|Ke (r:=2) (t:=163) aD ⟨_,Tryz.func91,κ,κ⟩ (tS:=37) (size:=41) (bytes:=Tryz.t163.bytes) κ κ (E_ κ) Ap1 Atk
def Bg1:=hq func93 (sp [(0,V 179)]) (W [(2,ow 0 179)]) DR<|Ke (r:=2) (t:=179) aD ⟨_,Tryz.func93,κ,κ⟩ (tS:=39) (size:=14) (bytes:=Tryz.t179.bytes) κ κ (E_ κ) Ap3 Atm
def Bg2:=hq func94 (sp [(0,V 184)]) (W [(2,ow 0 184)]) DQ<|Ke (r:=2) (t:=184) aD ⟨_,Tryz.func94,κ,κ⟩ (tS:=40) (size:=1) (bytes:=Tryz.t184.bytes) κ κ (E_ κ) Ap4 Atn
def Bnq:=hq func99 (sp [(0,V 54)]) (W [(2,ow 0 54)]) GL<|Ke (r:=2) (t:=54) aD ⟨_,Tryz.func99,κ,κ⟩ (tS:=41) (size:=2) (bytes:=Tryz.t54.bytes) κ κ (E_ κ) Ap8 Atr
def Bg3:=hq func92 (sp [(0,V 168)]) (W [(2,ow 0 168)]) DP<|Ke (r:=2) (t:=168) aD ⟨_,Tryz.func92,κ,κ⟩ (tS:=38) (size:=6) (bytes:=Tryz.t168.bytes) κ κ (E_ κ) Ap2 Atl
def Bnr:=hq func100 (sp [(0,V 202)]) (W [(2,ow 0 202)]) Hi<|Ke (r:=2) (t:=202) aD ⟨_,Tryz.func100,κ,κ⟩ (tS:=166) (size:=3) (bytes:=Tryz.t202.bytes) κ κ (E_ κ) Amo Apy
def Bns:=fkl func44 (N [J Aca]) (z [(2,C 32)] [(32,Qe)]) Rx [Q55,Q56,Q57,Bg0,Bg1,Bg2,Bnq,Bg3,Bnr] (U []) (Z [(1,C 16),(2,C 32),(54,B),(55,B)] [(16,Qe),(32,Ab8)]) [xh 0 [(1,C 16),(2,C 32)] [(16,Qe),(32,Ab8)]] OJ
def Bnt:=fk0 func124 (N [J c'2]) (W [(2,B),(3,B)]) ST [Q14]
def Bnu:=fk0 func154 (N [os]) (W [(2,os),(3,B)]) RX [Bgz]
def Bnv:=fk0 func125 (N [J c'2,os,B,o1]) [rx [(8,.one .nilp),(9,B)],yh [(8,C 752),(9,B)] [(752,Kc)]] Oy [Q14,Bnu]
def Q142:=fkl func162 (Z [(0,C 65536),(1,B)] [(65536,Kc)]) (ru [(4,Ac5)] [(65536,Kc)]) BC [] (U []) (su [(0,C 65536),(1,B),(5,Ac5),(7,B),(8,B)] [(65536,Kc)]) [xu 0 [(0,C 65536),(1,B),(5,Ac5)] [(65536,Kc)]] Hb
def Q143:=fk0 func158 (N [H]) (jn []) JN []
def Q144:=fk0 func156 (Z [(0,C 65536)] [(65536,Kc)]) (ru [(2,C 32)] [(32,[D,D]),(65536,Kc)]) GT [Q142,Bgx,Q143]
def Q145:=fk0 func157 (Z [(0,C 65536),(1,B)] [(65536,Kc)]) (ru [(4,B)] [(65536,Kc)]) BF [Q142,Q143]
def Q146:=fk0 func159 (Z [(0,C 65536)] [(65536,Kc)]) (ru [(2,o4)] [(65536,Kc)]) Fc [Q142,Q143]
def Q147:=fkl func160 (Z [(0,C 65536),(1,B)] [(65536,Kc)]) (ru [(4,ow 0 4)] [(65536,Kc)]) GU [Q145] (U []) (su [(5,B),(6,ow 0 4),(16,B),(17,B)] [(65536,Kc)]) [xu 0 [(6,ow 0 4)] [(65536,Kc)]] Jy
def Av5:Sp:=su [(0,C 65536),(2,C 32),(3,C 48),(40,B),(41,B)] [(32,Yx),(48,[A]),(65536,Kc)]
def Awe:SL:=[xu 0 [(2,C 32),(3,C 48)] [(32,Yx),(48,[A]),(65536,Kc)]]
def Bgp:=U [(5,nu [(0,C 65536),(2,C 32),(3,C 48)] [(32,Yx),(48,[A]),(65536,Kc)])]
def Bgq:LP:=pl [lpX Av5 Awe Eg]
def t148:KS [(156,Q144.e),(157,Q145.e),(158,Q143.e),(159,Q146.e),(160,Q147.e),(162,Q142.e)]:=(tc Q144.k<|tc Q145.k<|tc Q143.k<|tc Q146.k<|tc Q147.k<|tc Q142.k tn)
def Bjy:LoopOK prog G f126.ntmps (Bgq 0)<|Pi (noD 1<|BV f126) 0:=lk cx t148 Bgp 1 Av5 Awe (rfl:Eg=_) κ (an0 κ) λx=>by kernel_rfl
def Bjh:Fe G:=fe f126 (Z [(0,C 65536)] [(65536,Kc)]) (ru [(2,C 32),(3,C 48)] [(32,Yx),(48,[A]),(65536,Kc)]) Gt
def Bsj:K 126 Bjh:=fkd cx t148 Bgp Bgq 1 func126 Bl9 (λ_ _=>by kernel_rfl) Bl5<|aa<|CN Bjy Fw
def Bnw:KP:=⟨126,Bjh,Bsj⟩
def Bnx:=fk0 func90 (N [J c'2,os]) (z [(4,C 64),(5,B)] [(64,Yx)]) EF [Bnt,Bnv,Bnw]
def Bg4:=fk0 func163 (N [B]) (W [(2,B)]) HM []
def Bny:=fkj func237 (N [J [D,P,P,P,P],B]) (W [(4,H)]) KY []<|U [(10,jn [(4,H)])]
def Bnz:=fkj func238 (N [J [D,P,P,P,P],B,H]) (z [(6,C 96)] [(96,[D,P,P,P,P])]) Ns []<|U [(2,jh [(1,B),(2,H),(3,C 48),(6,C 96),(13,H)] [(48,[D,P,P,P,P]),(96,[D,P,P,P,P])])]
def Bn0:=fkl func196 (N [B,J Vi,J [D,P,P,P,P]]) (z [(6,C 96)] [(96,Vi)]) PF [Bny,Bnz] (U []) (Z [(0,B),(4,C 64),(5,C 80),(6,C 96),(9,B)] [(64,Vi),(80,[D,P,P,P,P]),(96,Vi)]) [xh 0 [(4,C 64),(6,C 96)] [(64,Vi),(96,Vi)]] KE
def Bn1:=fk0 func164 (N [B,J Vi,J [D,P,P,P,P]]) (z [(6,C 96),(7,B)] [(96,Vi)]) JL [Q78,Bn0]
def Bn2:=fk0 func197 (N [J c'2,.one cf]) (W [(4,B)]) SU []
def Bn3:=fkj func165 (N [J c'2,J [A],.one cf]) (z [(6,C 96)] [(96,[A])]) UY [Q14,Bn2]<|U [(4,jh [(2,.one cf),(3,C 48),(4,C 64),(6,C 96),(7,B),(22,H)] [(48,c'2),(64,[A]),(96,[A])])]
def Bn4:=fkl func127 (Z [(0,C 65536)] [(65536,As9)]) [ry [] [(65536,As9)],(.normal,su [] [(65536,CD)])] Cp [Bg4,Bn1,Bn3] (U []) (su [(0,C 65536),(33,V 119),(34,B),(35,B)] [(65536,CD)]) [xu 0 [] [(65536,CD)]] FO
def Aso:=fkj func166 (N [B]) (W [(2,H)]) FK []<|U [(1,jn [(2,H)])]
def Yh:=fkj func51 (N [B,B]) (z [(4,C 64)] [(64,[D,D])]) DX []<|U [(1,jh [(0,B),(1,B),(4,C 64),(10,H)] [(64,[D,D])])]
def Abx:=fk0 func47 (N [J [D,D],J [D,D]]) (z [(4,C 64)] [(64,[D,D])]) DN []
def Q161:=fk0 func262 (N [J [D,D],B,B]) (W [(6,H)]) EC [Yh,Abx]
def Bg5:=fkl func239 (N [V 202,B,J [D,D]]) (W [(6,ow 0 202),(7,H)]) IJ [Q161] (U []) (Z [(1,B),(5,C 80),(8,ow 0 202),(11,V 202),(12,B),(13,B)] [(80,[D,D])]) [xt 0 [(8,ow 0 202)],rx [(6,ow 0 202),(7,H)]] OE
def Bn5:=fk0 func198 (N [J c'2,B,J To]) (z [(6,C 96),(7,B)] [(96,Vh)]) PD [Q83,Bg5]
def Azz:=fk0 func274 (N [o4]) (W [(2,B)]) DW []
def Bg6:=fkj func280 (N [B]) (W [(2,H)]) FJ []<|U [(1,jn [(2,H)])]
def Az0:=fk0 func281 (N [o4]) (W [(2,B)]) Ft []
def Bn6:=fkj func240 (N [B,o4]) (W [(4,B)]) RQ [Azz,Bg6,Az0]<|U [(2,jn [(5,B),(19,H)])]
def Bn7:=fkj func241 (N [H,H,J [A,A,A,A]]) (W [(6,B)]) HW []<|jl [(5,jh [(1,H),(5,C 80),(7,B)] [(80,[A,A,A,A])])]
def Bn8:=fk0 func199 (N [B,J [D,P,P,P,P]]) (z [(4,C 64)] [(64,[A,A,A])]) Ew [Bn6,Bn7]
def Bg7:=fkj func242 (N [B,J [A,A,A]]) (W [(4,H)]) EO [Bg6]<|U [(1,jn [(4,H)])]
def Az1:=fkj func200 (N [B,J [A,A,A]]) (z [(4,C 64)] [(64,[D,D])]) CH [Bg7]<|U [(3,jh [(3,C 48),(4,C 64),(20,H)] [(48,[A,A,A]),(64,[D,D])]),(5,jh [(3,C 48),(4,C 64),(35,H)] [(48,[A,A,A]),(64,[D,D])])]
def Bn9:=fkj func201 (N [J c'2,B,J To,J [A,A,A]]) (z [(8,C 128),(9,B)] [(128,Vh)]) HU [Q83,Bg7,Az1,Bg5]<|jl [(8,jh [(6,C 96),(7,C 112),(8,C 128),(10,B)] [(96,Vh),(112,[A,A,A]),(128,Agq)]),(10,jh [(6,C 96),(7,C 112),(8,C 128),(10,B)] [(96,Vh),(112,[A,A,A]),(128,Agq)]),(1048581,jh [(6,C 96),(7,C 112),(8,C 128),(10,B),(54,H)] [(96,Vh),(112,[A,A,A]),(128,Agq)])]
def Boa:=fk0 func167 (Z [(0,C 65536),(1,B)] [(65536,CD)]) [ry [] [(65536,CD)],(.normal,su [] [(65536,CD)])] CI [Bn5,Bn8,Az1,Bn9]
def Bg8:=fkj func168 (N [B]) (W [(2,H)]) Fl []<|U [(1,jn [(2,H)])]
def Bg9:=fkj func243 (N [J c'2,B,J Mg]) (W [(6,H)]) JR [Q91]<|U [(1,jn [(6,H)])]
def Asp:=fk0 func283 (N [B]) (W [(2,B)]) Lm []
def Bha:=fk0 func282 (N [J [A,A,A,P,A]]) (z [(2,C 32)] [(32,[A,A,A,P,A])]) JM [Asp]
def Bob:=fk0 func244 (N [J [A,A,A,P,A]]) (z [(2,C 32)] [(32,[A,A,A,P,A])]) Qu [Q88,Bha,Asp]
def Boc:=fkj func245 (N [J [A,A,A]]) (z [(2,C 32)] [(32,[A,A,A])]) Nw []<|U [(1,jh [(1,C 16),(2,C 32),(20,H)] [(16,[A,A,A]),(32,[A,A,A])])]
def Bod:=fkj func284 (N [J c'3,J [A,A,A,P,A]]) (W [(4,H)]) MW []<|U [(1,jn [(4,H)])]
def Boe:=fk0 func285 (N [J c'3,J [A,A,A]]) (W [(4,H)]) Ry []
def Bhb:=fk0 func246 (N [J c'3,J Mg,B]) (z [(6,C 96),(7,B)] [(96,Mg)]) Gv [Bod,Boe]
def Bof:=fk0 func202 (N [J c'2,B,J Mg]) (z [(6,C 96),(7,B),(8,B)] [(96,Mg)]) PI [Bg9,Bob,Boc,Bhb]
def Bhc:=fkj func267 (N [J c'5,B]) (W [(4,H)]) Lc []<|U [(1,jn [(4,H)])]
def Bhd:=fkj func268 (N [J c'5,B]) (W [(4,H)]) Nx [Bhc]<|U [(1,jn [(4,H)])]
def Bog:=fkl func225 (N [J c'5]) (W [(2,ow 0 345)]) MN [Bhd] (U []) (Z [(1,C 16),(3,ow 0 345),(10,B),(11,B)] [(16,c'5)]) [xt 0 [(3,ow 0 345)]] Pz
def Wo:=fk0 func46 (N [J [D,D],J [D,D]]) (z [(4,C 64)] [(64,[D,D])]) CM []
def Boh:=fkl func224 (N [J c'2,J c'5,V 345,B]) (z [(8,C 128)] [(128,[D,D])]) Mp [Q36,Yh,Wo] (U [(7,jh [(2,V 345),(3,B),(8,C 128),(9,C 144),(11,C 176),(37,V 198),(38,B),(39,B),(58,H)] [(128,[D,D]),(144,[D,D]),(176,[A,A,A,A,P])])]) (Z [(2,V 345),(3,B),(8,C 128),(9,C 144),(37,V 198),(38,B),(39,B)] [(128,[D,D]),(144,[D,D])]) [xh 0 [(8,C 128),(9,C 144)] [(128,[D,D]),(144,[D,D])]] NS
def Az2:=fk0 func176 (N [J c'2,J c'5,B]) (z [(6,C 96)] [(96,[D,D])]) JQ [Bog,Boh]
def Boi:=fkj func247 (N [J c'2,J [A,P,A,P]]) (W [(4,H)]) Iu []<|U [(1,jn [(4,H)])]
def Boj:=fkj func286 (Z [(0,C 65536),(1,o4)] [(65536,HC)]) (nu [] [(65536,HC)]) Gl []<|jl [(4,nu [(0,C 65536),(1,o4)] [(65536,HC)])]
def Bok:=fkj func318 (N [B,J [A,A,A],J [A,P,A,P],B]) (z [(8,C 128),(9,B),(10,H)] [(128,[A,A,A])]) La [Q90,Q89]<|U [(4,jh [(0,B),(3,B),(5,C 80),(6,C 96),(8,C 128),(12,H),(40,H)] [(80,[A,A,A]),(96,[A,P,A,P]),(128,[A,A,A])]),(6,jh [(0,B),(3,B),(5,C 80),(6,C 96),(8,C 128),(53,H)] [(80,[A,A,A]),(96,[A,P,A,P]),(128,[A,A,A])])]
def Bhe:=fk0 func305 (Z [(0,C 65536),(1,B)] [(65536,HC)]) (ru [(4,H)] [(65536,HC)]) AK [Bok]
def Bol:=fkj func287 (Z [(0,C 65536)] [(65536,HC)]) (ru [(2,H)] [(65536,HC)]) CR [Bhe]<|U [(1,nu [(0,C 65536),(17,H)] [(65536,HC)]),(4,nu [(0,C 65536),(3,H),(37,H)] [(65536,HC)]),(6,nu [(0,C 65536),(48,H)] [(65536,HC)])]
def Az3:=fk0 func249 (N [.one<|.rp 382 0]) (z [(2,C 32)] [(32,c'3)]) Bo []
def Bhf:=fk0 func319 (N [J [A,A,A,P,A],B]) (z [(4,C 64)] [(64,[A,A,A,P,A])]) LV []
def Bom:=fk0 func320 (N [J [A,A,A,P,A],B]) (z [(4,C 64),(5,B)] [(64,[A,A,A,P,A])]) Ln [Asp]
def Bon:=fk0 func321 (N [J [A,A,A,P,A]]) (z [(2,C 32),(3,B)] [(32,[A,A,A,P,A])]) Yf [Bhf]
def Bhg:=fkj func306 (N [J c'3,J [A,A,A,P,A],B,H,H]) (z [(10,C 160),(11,B)] [(160,[A,A,A,P,A])]) Ll [Q88,Bha,Bhf,Bom,Bon,Asp]<|jl [(4,jh [(2,B),(3,H),(4,H),(5,C 80),(6,C 96),(10,C 160)] [(80,c'3),(96,[A,A,A,P,A]),(160,[A,A,A,P,A])]),(1048585,jh [(2,B),(3,H),(5,C 80),(6,C 96),(10,C 160),(12,H),(30,H)] [(80,c'3),(96,[A,A,A,P,A]),(160,[A,A,A,P,A])]),(1048588,jh [(3,H),(5,C 80),(6,C 96),(10,C 160),(12,H),(44,H)] [(80,c'3),(96,[A,A,A,P,A]),(160,[A,A,A,P,A])]),(1048590,jh [(3,H),(5,C 80),(6,C 96),(10,C 160),(12,H),(53,H)] [(80,c'3),(96,[A,A,A,P,A]),(160,[A,A,A,P,A])]),(1048597,jh [(6,C 96),(10,C 160),(95,H)] [(96,[A,A,A,P,A]),(160,[A,A,A,P,A])])]
def Boo:=fkj func288 (Z [(0,C 65536)] [(65536,HC)]) (nu [] [(65536,HC)]) Di [Az3,Bhg]<|jl [(7,nu [(0,C 65536)] [(65536,HC)])]
def Bhh:=fkj func179 (N [B,J [A,A],B]) (W [(6,H)]) Do [Q86]<|U [(1,jn [(6,H)])]
def Bhi:=fkj func275 (N [o4]) (W [(2,B)]) HV []<|jl [(5,jn [(0,o4),(2,B)]),(8,jn [(0,o4),(2,B)])]
def Bop:=fkj func227 (N [B,J [A,A],B,J [D,D,D]]) (z [(8,C 128)] [(128,KN)]) EM [Abx,Q161,Azz,Bhi]<|jl [(9,jh [(2,B),(8,C 128),(11,o4),(12,C 192)] [(128,KN),(192,KN)])]
def Boq:=fkj func228 (N [J KN]) (z [(2,C 32),(3,C 48)] [(32,KN),(48,KN)]) Df []<|U [(1,jh [(1,C 16),(2,C 32),(3,C 48)] [(16,KN),(32,KN),(48,KN)]),(3,jh [(1,C 16),(2,C 32),(3,C 48)] [(16,KN),(32,KN),(48,KN)])]
def Bor:=fkj func276 (N [J KN]) (W [(2,B)]) Ev []<|U [(1,jh [(1,C 16),(3,H)] [(16,KN)])]
def Az4:=fk0 func277 (N [B]) (z [(2,C 32)] [(32,[A,A,A])]) BL []
def Bos:=fk0 func229 (N [J KN]) (z [(2,C 32)] [(32,[A,A,A])]) Dd [Bor,Az4]
def Bhj:=fk0 func278 (N [B,H,B,B,H,B]) (W [(12,B)]) Fu []
def Bhk:=fkj func231 (N [J KN]) (z [(2,C 32)] [(32,[A,A,A])]) Cj [Bhj,Az4]<|U [(1,jh [(1,C 16),(2,C 32),(3,H)] [(16,KN),(32,[A,A,A])])]
def Bot:=fkj func230 (N [J KN]) (z [(2,C 32)] [(32,[A,A,A])]) Dt [Bhj,Az4,Bhk]<|U [(1,jh [(1,C 16),(2,C 32),(3,H)] [(16,KN),(32,[A,A,A])])]
def Bhl:=fkj func180 (N [B,J [A,A],B,J [D,D,D]]) (z [(8,C 128),(9,B)] [(128,[A,A,A])]) Cc [Bop,Boq,Bos,Bot,Bhk]<|U [(3,jh [(8,C 128),(9,B)] [(128,[A,A,A])])]
def Bhm:=fk0 func132 (N [B,J [A,A],B,J [D,D,D]]) (z [(8,C 128)] [(128,[A,A,A])]) Dn [Bhh,Bhl]
def Bhn:=fk0 func133 (N [B,J [A,A],B,J [D,D,D]]) (z [(8,C 128)] [(128,[A,A])]) Ea [Bhh,Bhl]
def Bou:=fk0 func307 (N [J c'2,B,B,B]) (W [(8,B)]) UZ [Q14]
def Bov:=fk0 func289 (Z [(0,C 65536),(1,J [D,D])] [(65536,HC)]) [ry [] [(65536,HC)],(.normal,su [] [(65536,HC)])] CQ [Bhm,Bhn,Az3,Bhg,Bhe,Bou]
def Bow:=fkj func248 (Z [(0,C 65536),(1,o4),(2,J [D,D])] [(65536,HC)]) [ry [] [(65536,HC)],(.normal,su [] [(65536,HC)])] DH [Boj,Bol,Boo,Bov]<|jl [(7,nu [(0,C 65536),(5,C 80)] [(80,[D,D]),(65536,HC)]),(1048578,nu [(0,C 65536),(5,C 80),(20,H)] [(80,[D,D]),(65536,HC)]),(1048579,nu [(0,C 65536),(5,C 80),(35,H)] [(80,[D,D]),(65536,HC)]),(1048584,nu [] [(65536,HC)])]
def Box:=fkj func203 (N [J c'2,B,J Mg,J [A,P,A,P],o4,J [D,D]]) (z [(12,C 192),(13,B),(14,B)] [(192,Mg)]) Lb [Bg9,Boi,Bow,Az3,Bhb]<|U [(6,jh [(8,C 128),(12,C 192),(15,C 592)] [(128,Mg),(192,Mg),(592,HC)])]
def Boy:=fkj func169 (Z [(0,C 65536),(1,B),(2,B)] [(65536,CD)]) [ry [] [(65536,CD)],(.normal,su [] [(65536,CD)])] Dh [Bof,Az2,Box]<|jl [(6,nu [(0,C 65536),(1,B),(6,C 96)] [(96,[D,D]),(65536,CD)])]
def Bho:=fk0 func252 (N [J c'5]) (z [(2,C 32)] [(32,c'4)]) MY [Q55,Q56,Q57]
def Bhp:=fk0 func250 (N [J c'2,J c'5,J [A,A,A,A,A]]) (z [(6,C 96),(7,B)] [(96,c'4)]) MX [Q36,Q21,Bho,Q32]
def Bhq:=fkj func251 (N [J c'2,J c'5]) (W [(4,H)]) Mu [Q36]<|U [(1,jn [(4,H)])]
def Boz:=fkj func204 (N [J c'2,J [y,y,A],J c'5,J [A,A,A,A,A],B]) (z [(10,C 160),(11,C 176),(12,B),(13,B)] [(160,[y,y,A]),(176,c'4)]) OA [Bhp,Q34,Q29,Bhq,Q41,Q16,Q48,Q52,Bho]<|jl [(12,jh [(4,B),(6,C 96),(7,C 112),(10,C 160),(11,C 176),(14,C 224),(15,B)] [(96,[y,y,A]),(112,c'5),(160,[y,y,A]),(176,c'4),(224,c'8)]),(1048581,jh [(4,B),(5,C 80),(6,C 96),(7,C 112),(8,C 128),(10,C 160),(11,C 176),(14,C 224),(63,H)] [(80,c'2),(96,[y,y,A]),(112,c'5),(128,[A,A,A,A,A]),(160,[y,y,A]),(176,c'4),(224,c'8)])]
def Az5:=fkl func170 (Z [(0,C 65536),(1,V 243)] [(65536,CD)]) [ry [] [(65536,CD)],(.normal,su [] [(65536,CD)])] Cg [Boz] (U []) (su [(0,C 65536),(10,V 243),(11,B),(12,B)] [(65536,CD)]) [xu 0 [] [(65536,CD)],ry [] [(65536,CD)]] FF
def Bo0:=fkl func128 (Z [(0,C 65536)] [(65536,CD)]) (nu [] [(65536,CD)]) Du [Aso,Boa,Bg8,Boy,Az5] (jl [(12,nu [(0,C 65536),(2,ow 0 243),(3,B),(5,H),(11,V 3),(12,B),(13,B)] [(65536,Yy)]),(1048582,nu [(0,C 65536),(2,ow 0 243),(3,B),(11,V 3),(12,B),(13,B)] [(65536,Yy)]),(1048585,nu [(0,C 65536),(2,ow 0 243),(3,B),(11,V 3),(12,B),(13,B)] [(65536,Yy)]),(1048587,nu [(0,C 65536),(2,ow 0 243),(3,B),(11,V 3),(12,B),(13,B),(61,H)] [(65536,Yy)]),(1048590,nu [] [(65536,CD)])]) (su [(0,C 65536),(2,ow 0 243),(11,V 3),(12,B),(13,B)] [(65536,Yy)]) [xu 0 [(0,C 65536),(2,ow 0 243)] [(65536,Yy)]] CT
def Bo1:=fkj func253 (N [J c'2,B,J To]) (W [(6,H)]) PE [Q83]<|U [(1,jn [(6,H)])]
def Bo2:=fkj func254 (N [J c'2,J Mg,J [A,P,A,P]]) (W [(6,H)]) Mw [Q91]<|U [(1,jn [(6,H)])]
def Bo3:=fkl func205 (N [.one<|.rp 189 0]) (W [(2,ow 0 4)]) Co [Aso,Bo1,Bg8,Bo2] (U [(5,jn [(0,.one<|.rp 189 0),(3,ow 0 4),(18,V 3),(19,B),(20,B)])]) (sp [(0,.one<|.rp 189 0),(3,ow 0 4),(18,V 3),(19,B),(20,B)]) [xt 0 [(3,ow 0 4)]] Jf
def Bo4:=fk0 func290 (N [J RG,B]) (W [(4,H)]) Cd []
def Bo5:=fkl func292 (N [J c'5]) (W [(2,H)]) Ey [] (U []) (Z [(1,C 16),(6,V 3),(7,B),(8,B)] [(16,c'5)]) [xt 0 [],rx [(2,H)]] VE
def Bo6:=fk0 func293 (N [J RG,B]) (W [(4,ow 0 243)]) Ez []
def Bo7:=fk0 func291 (N [H,B,ow 0 243]) (W [(6,ow 0 243),(7,B)]) EV []
def Bo8:=fkj func255 (N [J RG,B]) (W [(4,ow 0 243),(5,B)]) Iv [Bo4,Bo5,Bo6,Bo7]<|U [(2,jh [(1,B),(2,C 32),(6,C 96),(7,H),(17,H)] [(32,RG),(96,c'5)]),(4,jh [(1,B),(2,C 32),(6,C 96),(7,H),(31,H)] [(32,RG),(96,c'5)]),(5,jh [(1,B),(2,C 32),(6,C 96),(7,H),(31,H)] [(32,RG),(96,c'5)]),(7,jh [(1,B),(2,C 32),(6,C 96),(7,H),(46,H)] [(32,RG),(96,c'5)]),(9,jh [(1,B),(2,C 32),(6,C 96),(7,H),(60,H)] [(32,RG),(96,c'5)]),(11,jh [(1,B),(2,C 32),(6,C 96),(7,H),(69,H)] [(32,RG),(96,c'5)]),(13,jh [(1,B),(2,C 32),(6,C 96),(7,H),(83,H)] [(32,RG),(96,c'5)]),(15,jh [(1,B),(2,C 32),(6,C 96),(102,H)] [(32,RG),(96,c'5)]),(17,jh [(2,C 32),(122,H)] [(32,RG)])]
def Bo9:=fk0 func206 (N [J c'2,J c'5,J [A,A],V 4]) (W [(8,ow 0 243),(9,B)]) Rz [Q36,Bo8]
def Bpa:=fkl func256 (N [J c'5,B]) (W [(4,H)]) Gw [] (U []) (sp [(1,B),(8,V 198),(9,B),(10,B)]) [xt 0 [],rx [(4,H)]] QQ
def Bpb:=fkl func207 (N [J c'2,J c'5,V 4]) (W [(6,ow 0 243)]) SV [Q36,Bpa] (jl [(13,jh [(2,V 4),(4,C 64),(7,ow 0 243),(8,B),(24,V 3),(25,B),(26,B)] [(64,c'5)]),(1048583,jh [(2,V 4),(4,C 64),(7,ow 0 243),(8,B),(9,B),(10,H),(24,V 3),(25,B),(26,B)] [(64,c'5)]),(1048584,jh [(2,V 4),(4,C 64),(7,ow 0 243),(8,B),(10,H),(24,V 3),(25,B),(26,B),(57,H)] [(64,c'5)])]) (Z [(2,V 4),(4,C 64),(7,ow 0 243),(24,V 3),(25,B),(26,B)] [(64,c'5)]) [xt 0 [(7,ow 0 243)]] PT
def Bpc:=fkj func208 (N [B,B]) (W [(4,H)]) IX []<|U [(1,jn [(4,H)])]
def Bpd:=fk0 func209 (N [J c'2,B,J To]) (z [(6,C 96),(7,B)] [(96,Vh)]) Oq [Q83]
def Bpe:=fkl func171 (Z [(0,C 65536)] [(65536,CD)]) [ry [] [(65536,CD)],(.normal,su [] [(65536,CD)])] CJ [Bo3,Bo9,Az5,Bpb,Bpc,Q59,Bpd] (jl [(7,nu [(0,C 65536),(2,C 32),(3,C 48),(4,ow 0 4),(6,B)] [(32,c'5),(48,[A,A]),(65536,Yy)]),(9,nu [(0,C 65536),(2,C 32),(3,C 48),(6,B)] [(32,c'5),(48,[A,A]),(65536,CD)]),(1048579,nu [(0,C 65536),(2,C 32),(3,C 48),(4,ow 0 4),(6,B)] [(32,c'5),(48,[A,A]),(65536,Yy)]),(1048583,nu [(0,C 65536),(2,C 32),(3,C 48),(6,B)] [(32,c'5),(48,[A,A]),(65536,CD)]),(1048590,nu [(0,C 65536),(2,C 32),(3,C 48),(6,B),(7,B),(79,V 3),(80,B),(81,B),(117,H)] [(32,c'5),(48,[A,A]),(65536,CD)])]) (su [(0,C 65536),(2,C 32),(3,C 48),(6,B),(79,V 3),(80,B),(81,B)] [(32,c'5),(48,[A,A]),(65536,CD)]) [xu 0 [] [(65536,CD)]] Cn
def Bpf:=fkj func129 (Z [(0,C 65536)] [(65536,CD)]) (nu [] [(65536,CD)]) BI [Bpe]<|U [(1,nu [] [(65536,CD)])]
def Bhr:=fkj func218 (N [J c'5,B]) (W [(4,H)]) IY [Bhc]<|U [(4,jn [(4,H)])]
def Bpg:=fkl func269 (N [V 202]) (z [(2,C 32)] [(32,[D,D])]) NP [Yh,Wo] (U []) (Z [(2,C 32),(3,C 48),(6,V 202),(7,B),(8,B)] [(32,[D,D]),(48,[D,D])]) [xh 0 [(2,C 32),(3,C 48)] [(32,[D,D]),(48,[D,D])]] QP
def Bph:=fk0 func270 (N [J c'2,J Mg,J [A,P,A,P]]) (z [(6,C 96)] [(96,[D,D])]) PJ [Q91,Az1]
def Bpi:=fkj func219 (N [J c'2,J Aca,B,J [A,P,A,P]]) (z [(8,C 128)] [(128,Vk)]) PH [Bhd,Bhr,Aso,Bpg,Bph,Az2]<|jl [(12,jh [(2,B),(4,C 64),(5,C 80),(8,C 128),(10,C 160),(11,C 176)] [(64,c'2),(80,Aca),(128,Vk),(160,Mg),(176,Vk)]),(1048579,jh [(2,B),(4,C 64),(5,C 80),(7,C 112),(8,C 128),(9,B),(10,C 160),(11,C 176)] [(64,c'2),(80,Aca),(112,[A,P,A,P]),(128,Vk),(160,Mg),(176,Vk)])]
def Bpj:=fkl func173 (N [.one<|.rp 189 0]) (W [(2,ow 0 345)]) Es [Bhr,Bpi] (U [(7,jn [(0,.one<|.rp 189 0),(3,ow 0 345),(14,B),(15,B)])]) (sp [(0,.one<|.rp 189 0),(3,ow 0 345),(14,B),(15,B)]) [xt 0 [(3,ow 0 345)]] FE
def Bhs:=fk0 func257 (N [J c'2,J Vk]) (z [(4,C 64)] [(64,[D,D])]) HX [Q99,Abx]
def Bpk:=fkl func210 (N [J c'2,V 345,V 54]) (z [(6,C 96),(7,B)] [(96,Ata)]) LD [Q14,Bhs,Alt,Wo] (U []) (Z [(2,V 54),(3,C 48),(6,C 96),(8,C 128),(32,V 345),(33,B),(34,B)] [(48,c'2),(96,Ata),(128,Bi3)]) [xh 0 [(6,C 96),(8,C 128)] [(96,Ata),(128,Bi3)]] MP
def Bpl:=fkj func258 (N [B]) (W [(2,H)]) Hg []<|U [(1,jn [(2,H)])]
def Bpm:=fkl func32 (N [V 3,.one<|.clo 258 [] []]) (W [(4,B)]) Cr [Bpl] (U []) (sp [(0,V 3),(1,.one<|.clo 258 [] []),(7,B),(8,B)]) [xt 0 [],rx [(4,B)]] Cf
def Bpn:=fk0 func13 (N [V 3,.one<|.clo 258 [] []]) (W [(4,H)]) Bi [Bpm]
def Bpo:=fkj func211 (N [J c'5,V 3]) (W [(4,H)]) It [Bpn]<|U [(1,jn [(4,H)])]
def Bpp:=fk0 func212 (N [J c'5]) (z [(2,C 32)] [(32,c'4)]) MM [Q55,Q56,Q57]
def Bpq:=fk0 func213 (N [B]) (z [(2,C 32)] [(32,Ata)]) Ov []
def Av6:Sp:=Z [(3,C 48),(4,C 64),(7,C 112),(25,V 345),(26,B),(27,B)] [(48,c'2),(64,c'5),(112,[D,D])]
def Awf:SL:=[xh 0 [(4,C 64),(7,C 112)] [(64,c'5),(112,[D,D])]]
def Av7:Sp:=Z [(7,C 112),(10,ow 0 243),(38,V 198),(39,B),(40,B)] [(112,[D,D])]
def Awg:SL:=[xt 2 [(10,ow 0 243)]]
def t253:List KP:=[Q36,Bhs,Wo,Q161]
def Azw:LP:=pl [lpX Av6 Awf JB,lpX Av7 Awg JC]
def Bj0:LK f215 Azw 1:=lk0 t253 (U []) 2 Av7 Awg JC
def Bjz:LK f215 Azw 0:=lk0 t253 (U []) 1 Av6 Awf JB
def Bpr:=fk1 func215 (N [J c'2,J c'5,V 345]) (W [(6,ow 0 243)]) LE t253 (U []) Azw<|aa<|CN Bjz<|CN Bj0 Fw
def Bps:=fkj func295 (Z [(0,J [A,A,A,A,P]),(1,C 65536),(2,C 65537)] [(65536,[A]),(65537,[A])]) [(.ret,⟨[(4,H)],[(65536,[A]),(65537,[A])],[65536,65537]⟩)] IW []<|U [(1,[(.normal,⟨[(4,H)],[(65536,[A]),(65537,[A])],[65536,65537]⟩)])]
def Bpt:=fkl func294 (Z [(0,V 198),(1,.one<|.clo 295 [] [(65536,0),(65537,0)])] [(65536,[A]),(65537,[A])]) [(.ret,⟨[(4,B)],[(65536,[A]),(65537,[A])],[65536,65537]⟩)] Bw [Bps] (U []) (⟨[(0,V 198),(1,.one<|.clo 295 [] [(65536,0),(65537,0)]),(7,B),(8,B)],[(65536,[A]),(65537,[A])],[65536,65537]⟩) [(.exit 0,⟨[],[(65536,[A]),(65537,[A])],[65536,65537]⟩),(.ret,⟨[(4,B)],[(65536,[A]),(65537,[A])],[65536,65537]⟩)] Bp
def Bpu:=fkj func259 (N [J c'5,B,B]) (W [(6,B),(7,H)]) Kx [Bpt]<|U [(4,jn [(6,B),(7,H)])]
def Bpv:=hq func260 (sp [(0,ow 0 3),(1,B),(2,B)]) (W [(6,ow 0 3)]) Ff<|Am3 (r:=6) (t:=3) aD ⟨_,Tryz.func260,κ,κ⟩ (by intro h;cases h) (λ_=>rfl)<|Acf
def Bpw:=hq func261 (sp [(0,ow 0 3),(1,B),(2,ow 1 3)]) (W [(6,ow 0 3)]) Fg<|Acu (r:=6) (t:=3) aD ⟨_,Tryz.func261,κ,κ⟩ (by intro h;cases h) (λ_=>rfl)<|Acs
def Bht:=fkl func214 (Z [(0,C 65536),(1,V 243)] [(65536,Vl)]) (nu [] [(65536,Vl)]) Bv [Bpu,Bpv,Bpw,Bhp] (jl [(9,nu [(0,C 65536),(5,C 80),(10,V 243),(11,B),(12,B)] [(80,[A,A,A,A,A]),(65536,Vl)]),(1048580,nu [(0,C 65536),(5,C 80),(6,B),(7,H),(10,V 243),(11,B),(12,B),(29,H)] [(80,[A,A,A,A,A]),(65536,Vl)]),(1048582,nu [(0,C 65536),(5,C 80),(6,B),(10,V 243),(11,B),(12,B),(49,H)] [(80,[A,A,A,A,A]),(65536,Vl)])]) (su [(0,C 65536),(10,V 243),(11,B),(12,B)] [(65536,Vl)]) [xu 0 [] [(65536,Vl)]] DV
def Bpx:=fkl func220 (N [V 198]) (z [(2,C 32)] [(32,[D,D])]) RW [Yh,Wo] (U []) (Z [(2,C 32),(3,C 48),(6,V 198),(7,B),(8,B)] [(32,[D,D]),(48,[D,D])]) [xh 0 [(2,C 32),(3,C 48)] [(32,[D,D]),(48,[D,D])]] SX
def Bhu:=fk0 func174 (N [J c'5]) (z [(2,C 32)] [(32,[D,D])]) ET [Bpx]
def Bhv:=hq func221 (sp [(0,J [D,D])]) (W [(2,ow 0 198)]) LT (e:=Bec G 2 198 (λu d f k=>EC u d f k) (λf d=>Entry.mk f d (-1) 0 aF))<|Bka (t:=198) (h:=(λu d f k=>EC u d f k)) (mk:=λf d=>Entry.mk f d (-1) 0 aF) aD ⟨_,Tryz.func221,κ,κ⟩ κ (λ_ _=>by kernel_rfl) (λw u d hb hh hgl=>Bbu w u d hb λp hp w' hw=>Axo (h:=(λu d f k=>EC u d f k)) ((show Q161.e=Alc G 6 (λu d f k=>EC u d f k)by kernel_rfl)▸Q161.k) (hh p hp) (hgl.below hw) hw.size)
def Bpy:=fkl func216 (Z [(0,C 65536),(1,J [D,D]),(2,J [D,D])] [(65536,Vl)]) (nu [] [(65536,Vl)]) DK [Q99,Abx,Alt,Bhv,Bhq,Bht,Yh,Wo] (U []) (su [(0,C 65536),(17,ow 0 198),(18,B),(19,B)] [(65536,Br7)]) [xu 0 [] [(65536,Vl)]] EP
def Bpz:=fkj func263 (N [B]) (W [(2,H)]) Ly []<|U [(1,jn [(2,H)])]
def Bp0:=fkl func32 (N [V 3,.one<|.clo 263 [] []]) (W [(4,B)]) Dl [Bpz] (U []) (sp [(0,V 3),(1,.one<|.clo 263 [] []),(7,B),(8,B)]) [xt 0 [],rx [(4,B)]] CU
def Bp1:=fk0 func13 (N [V 3,.one<|.clo 263 [] []]) (W [(4,H)]) Bx [Bp0]
def Bhw:=fkj func312 (N [B]) (W [(2,H)]) LA []<|U [(1,jn [(2,H)])]
def Bp2:=fkj func313 (N [B,B,B]) (W [(6,H)]) Rw []<|U [(1,jn [(6,H)])]
def Bhx:=fk0 func314 (N [B,J [D,D,D]]) (z [(4,C 64)] [(64,[D,D,D])]) Mq [Abx]
def Bp3:=fkl func315 (Z [(0,ow 0 3),(1,C 65536),(2,C 65537)] [(65536,[A]),(65537,[A])]) [(.ret,⟨[(4,B)],[(65536,[A]),(65537,[A])],[65536,65537]⟩)] CP [] (U []) (⟨[(5,B),(6,B),(13,ow 0 3),(14,B),(15,B)],[(65536,[A]),(65537,[A])],[65536,65537]⟩) [(.exit 0,⟨[(5,B)],[(65536,[A]),(65537,[A])],[65536,65537]⟩)] Nb
def Bp4:=fkj func300 (N [B,B,B,J [D,D,D],B,B]) (W [(12,B)]) UW [Bhw,Bp2,Bhx,Azz,Bhi,Bp3]<|U [(7,jh [(2,B),(5,B),(15,B),(16,B),(17,.one<|.clo 315 [] [(112,0),(160,0)]),(18,H)] [(112,[A]),(160,[A])]),(8,jh [(2,B),(5,B),(15,B),(16,B),(17,.one<|.clo 315 [] [(112,0),(160,0)]),(87,H)] [(112,[A]),(160,[A])]),(10,jh [(2,B),(5,B),(15,B),(16,B),(17,.one<|.clo 315 [] [(112,0),(160,0)]),(100,H)] [(112,[A]),(160,[A])])]
def Bp5:=fk0 func316 (N [J [D,D]]) (W [(2,B)]) Rv [Az0]
def Bp6:=fk0 func301 (N [B,J [D,D,D]]) (W [(4,B)]) SS [Bhw,Bhx,Az0,Bp5]
def Bhy:=fkj func266 (N [J c'2,B,J Vk,B,B]) (W [(10,B)]) FI [Q14,Bp4,Bp6]<|jl [(7,jh [(1,B),(3,B),(4,B),(5,C 80),(7,C 112),(11,B)] [(80,c'2),(112,Vk)])]
def Bhz:=fkj func311 (N [J Vk]) (W [(2,H)]) Hq []<|U [(1,jn [(2,H)])]
def Bh0:=fk0 func309 (N [J c'2,V 345,B,B,B]) (z [(10,C 160)] [(160,[A,A])]) KX [Bhy,Bhz]
def Bh1:=fkj func310 (N [J [A,A],J [A,A]]) (W [(4,H)]) IU []<|U [(3,jn [(4,H)])]
def Bh2:=fkl func298 (N [J c'2,V 345,B,B,B]) (W [(10,B)]) Hf [Q14,Bh0,Bh1] (U [(9,jh [(1,V 345),(2,B),(3,B),(4,B),(5,C 80),(11,B),(12,C 192),(13,B),(15,C 240),(28,V 345),(29,B),(30,B),(55,H)] [(80,c'2),(192,[A,A]),(240,[A,A])])]) (Z [(1,V 345),(2,B),(3,B),(4,B),(5,C 80),(11,B),(12,C 192),(28,V 345),(29,B),(30,B)] [(80,c'2),(192,[A,A])]) [xt 0 [(11,B)]] MO
def Bp7:=fkj func299 (N [J Acb,J [A,A,A,A,P],B]) (W [(6,B)]) GN [Bh2,Bh0,Bh1,Bhz]<|U [(5,jh [(3,C 48),(7,B),(8,C 128),(9,H)] [(48,Acb),(128,Vk)]),(6,jn [(7,B),(78,H)])]
def Bp8:=fkj func264 (N [J Acb,J [A,A,A,A,P],B]) (z [(6,C 96)] [(96,[A,A,A,A,P])]) Gn [Bh2,Bp7]<|U [(5,jh [(2,B),(3,C 48),(4,C 64),(6,C 96),(7,B),(31,H)] [(48,Acb),(64,[A,A,A,A,P]),(96,[A,A,A,A,P])]),(10,jh [(2,B),(3,C 48),(4,C 64),(6,C 96),(70,H)] [(48,Acb),(64,[A,A,A,A,P]),(96,[A,A,A,A,P])])]
def Bp9:=fkj func265 (N [J [A,A,A,A,P],J [A,A,A,A,P]]) (W [(4,ow 0 243)]) Ku []<|jl [(8,jh [(2,C 32),(3,C 48),(5,ow 0 243)] [(32,[A,A,A,A,P]),(48,[A,A,A,A,P])]),(1048578,jh [(2,C 32),(3,C 48),(5,ow 0 243),(18,H)] [(32,[A,A,A,A,P]),(48,[A,A,A,A,P])])]
def Bqa:=fkl func217 (N [J c'2,J c'5,V 3,V 345]) (W [(8,ow 0 243),(9,ow 1 3),(10,B)]) II [Q36,Bp1,Bp8,Bp9,Bhy] (U [(12,jh [(2,V 3),(3,V 345),(4,C 64),(11,C 176),(12,ow 0 243),(13,ow 1 3),(14,B),(15,C 240),(16,C 256),(48,V 198),(49,B),(50,B),(85,H)] [(64,c'2),(176,Acb),(240,[A,A,A,A,P]),(256,[A,A,A,A,P])])]) (Z [(2,V 3),(3,V 345),(4,C 64),(11,C 176),(12,ow 0 243),(13,ow 1 3),(48,V 198),(49,B),(50,B)] [(64,c'2),(176,Acb)]) [xt 0 [(12,ow 0 243),(13,ow 1 3)]] OD
def Bqb:=fkj func172 (N [J c'2,J c'5,V 3,V 345,V 54,J [D,D],H]) (z [(14,C 224),(15,B)] [(224,Bi4)]) LB [Bpk,Q36,Bpo,Bpp,Q55,Bpq,Bpr,Bht,Bhu,Bpy,Bqa]<|jl [(11,jh [(3,V 345),(7,C 112),(14,C 224),(18,C 736)] [(112,c'2),(224,Bi4),(736,Br8)])]
def Av8:Sp:=su [(0,C 65536),(2,C 32),(82,V 243),(83,B),(84,B)] [(32,Atb),(65536,Atc)]
def Awh:SL:=[xu 0 [(0,C 65536),(2,C 32)] [(32,Atb),(65536,Atc)]]
def Av9:Sp:=su [(0,C 65536),(2,C 32),(112,B),(113,B)] [(32,Atb),(65536,Atc)]
def Awi:SL:=[xu 2 [] [(65536,CD)]]
def Azu:=jl [(7,nu [(0,C 65536),(2,C 32)] [(32,Atb),(65536,Atc)]),(1048577,nu [(0,C 65536),(2,C 32)] [(32,Bi5),(65536,Bi6)]),(2097153,nu [(0,C 65536),(2,C 32)] [(32,Bi5),(65536,Bi6)])]
def t284:List KP:=[Bpj,Bqb,Az5,Bg4,Yh,Wo]
def Azx:LP:=pl [lpX Av8 Awh Dq,lpX Av9 Awi Ds]
def Bj2:LK f130 Azx 1:=lk0 t284 Azu 2 Av9 Awi Ds
def Bj1:LK f130 Azx 0:=lk0 t284 Azu 1 Av8 Awh Dq
def Bqc:=fk1 func130 (Z [(0,C 65536)] [(65536,CD)]) (nu [] [(65536,CD)]) Cz t284 Azu Azx<|aa<|CN Bj1<|CN Bj2 Fw
def Bqd:=fkl func222 (N [V 202,J [A,A,A],.one<|.clo 121 [] []]) (W [(6,B),(7,H)]) AY [Q82] (U [(8,jn [(6,B),(7,H)])]) (Z [(0,V 202),(2,.one<|.clo 121 [] []),(4,C 64),(8,B),(9,B),(10,B)] [(64,[A,A,A])]) [xh 0 [(0,V 202),(2,.one<|.clo 121 [] []),(4,C 64),(8,B),(9,B)] [(64,[A,A,A])]] AV
def Bqe:=hq func223 (sp [(0,ow 0 202),(1,B),(2,ow 1 202)]) (W [(6,ow 0 202)]) BR<|Acu (r:=6) (t:=202) aD ⟨_,Tryz.func223,κ,κ⟩ (by intro h;cases h) (λ_=>rfl)<|Acr
def Bqf:=fkl func175 (N [J c'2,B,J To,J [D,D]]) (z [(8,C 128),(9,B)] [(128,Vh)]) IV [Q83,Q99,Abx,Bhv,Bqd,Bqe] (U [(14,jh [(6,C 96),(8,C 128)] [(96,Vh),(128,Agq)])]) (Z [(6,C 96),(8,C 128),(36,ow 0 198),(37,B),(38,B)] [(96,Agq),(128,Br9)]) [xh 0 [(6,C 96),(8,C 128)] [(96,Vh),(128,Agq)]] JA
def Bqg:=fkj func226 (N [B]) (W [(2,H)]) Mr []<|U [(1,jn [(2,H)])]
def Bqh:=fkl func177 (N [J c'2,B,B,J To]) (z [(8,C 128)] [(128,[D,D,P])]) HL [Bqg,Q83,Yh,Wo] (U []) (Z [(1,B),(4,C 64),(8,C 128),(9,C 144),(24,V 202),(25,B),(26,B)] [(64,c'2),(128,[D,D,P]),(144,[D,D,P])]) [xh 0 [(8,C 128),(9,C 144)] [(128,[D,D,P]),(144,[D,D,P])]] KF
def Bqi:=fkj func178 (N [B,B]) (W [(4,H)]) KA []<|U [(1,jn [(4,H)])]
def Bqj:=fkl func131 (Z [(0,C 65536)] [(65536,CD)]) (nu [] [(65536,CD)]) Ca [Bhu,Aso,Az2,Bqf,Bqh,Bqi] (jl [(7,nu [(0,C 65536),(2,B),(3,B),(29,V 3),(30,B),(31,B)] [(65536,CD)]),(1048580,nu [(0,C 65536),(2,B),(3,B),(29,V 3),(30,B),(31,B),(49,H)] [(65536,CD)])]) (su [(0,C 65536),(29,V 3),(30,B),(31,B)] [(65536,CD)]) [xu 0 [] [(65536,CD)]] BG
def Awa:List<|Sp×(Nat->Option SL):=[(su [(0,C 65536),(14,.one<|.sa 224 0 5),(15,.one<|.lit .i64 5),(16,.one<|.lit .i64 0)] [(224,Acc),(65536,As9)],U [(3,nu [(0,C 65536),(14,.one<|.sa 224 0 5),(15,.one<|.lit .i64 5),(16,.one<|.lit .i64 0)] [(224,Acc),(65536,CD)])]),(su [(0,C 65536),(14,.one<|.sa 224 0 5),(15,.one<|.lit .i64 5),(16,.one<|.lit .i64 1)] [(224,Acc),(65536,CD)],U []),(su [(0,C 65536),(14,.one<|.sa 224 0 5),(15,.one<|.lit .i64 5),(16,.one<|.lit .i64 2)] [(224,Acc),(65536,CD)],U []),(su [(0,C 65536),(14,.one<|.sa 224 0 5),(15,.one<|.lit .i64 5),(16,.one<|.lit .i64 3)] [(224,Acc),(65536,CD)],U []),(su [(0,C 65536),(14,.one<|.sa 224 0 5),(15,.one<|.lit .i64 5),(16,.one<|.lit .i64 4)] [(224,Acc),(65536,CD)],U []),(su [(0,C 65536),(14,.one<|.sa 224 0 5),(15,.one<|.lit .i64 5),(16,.one<|.lit .i64 5)] [(224,Acc),(65536,CD)],U [])]
def t292:List KP:=[Bn4,Bo0,Bpf,Bqc,Bqj]
def Bgr:LP:=pl [lpN<|rN (cfQ<|KL t292) 28 (VQ (cfQ<|KL t292) 28) (pl []) (λ_=>[]) 1 (Pi (BV f95) 0) Awa]
def Bj3:LK f95 Bgr 0:=lkn cx (KLs t292) (pl []) 1 Awa
def Bqk:=fk1 func95 (Z [(0,C 65536)] [(65536,As9)]) [ry [] [(65536,CD)],(.normal,su [] [(65536,CD)])] DG t292 (U []) Bgr<|aa<|CN Bj3 Fw
def Bql:=fkj func43 (N [J c'2,J Aca,os,B]) (z [(8,C 128),(9,C 144),(10,B)] [(128,Bi7),(144,Bi8)]) HN [Bnx,Bg0,Bg3,Bg1,Bg2,Bqk]<|U [(5,jh [(8,C 128),(9,C 144),(14,C 640)] [(128,Qe),(144,Bsa),(640,Bsb)])]
def Bqm:=fk0 func21 (N [J c'2,J Aca,os,B]) (z [(8,C 128),(9,C 144),(10,B)] [(128,Bi7),(144,Bi8)]) JP [Q96,Bns,Bql]
def Bqn:=fkj func22 (Z [(0,C 65536),(1,B),(2,B),(3,B)] [(65536,Wy)]) (nu [] [(65536,Wy)]) HA [Q67,Q66]<|U [(2,nu [(0,C 65536),(1,B),(2,B),(3,B),(26,H)] [(65536,Wy)]),(4,nu [(0,C 65536),(1,B),(52,H)] [(65536,Wy)])]
def Bh3:=fk0 func104 (N [J Jr,B,B]) (z [(6,C 96)] [(96,Jr)]) NA [Bgt]
def Bqo:=fk0 func105 (N [B,J c'3,J Jr]) (z [(6,C 96)] [(96,Jr)]) JT [Bhm,Bhn,Bh3]
def Bqp:=fkj func49 (N [B,J c'3,J Jr]) (z [(6,C 96)] [(96,Jr)]) LZ [Bh3,Q98,Bqo]<|jl [(9,[(.normal,Z [(0,B),(4,C 64),(5,C 80),(6,C 96)] [(64,c'3),(80,Jr),(96,Jr)]),yh [(6,C 96)] [(96,Jr)]])]
def Bqq:=fkj func23 (N [J c'2,B,J Jr,J [D,D],o4]) (z [(10,C 160)] [(160,Jr)]) JS [Bgu,Q66,Q99,Abx,Wo,Bqp,Yh,Alt]<|jl [(9,jh [(7,C 112),(10,C 160)] [(112,Jr),(160,Jr)])]
def Bqr:=fk0 func53 (N [J Kb,B]) (W [(4,B)]) Mx []
def Bqs:=fk0 func54 (N [J Kb]) (z [(2,C 32)] [(32,Kb)]) GX []
def Bqt:=fk0 func57 (N [J Kb,B]) (W [(4,B)]) QN []
def Bqu:=fkj func56 (N [J Kb,B,B]) (z [(6,C 96)] [(96,Kb)]) KD []<|jl [(7,[(.normal,Z [(1,B),(3,C 48),(6,C 96)] [(48,Kb),(96,Kb)]),yh [(6,C 96)] [(96,Kb)]]),(1048580,jh [(1,B),(2,B),(3,C 48),(6,C 96),(23,H)] [(48,Kb),(96,Kb)])]
def Bqv:=fkj func24 (N [B,J Kb,B,B]) (z [(8,C 128)] [(128,Kb)]) Jc [Bgw,Q67,Bqr,Bqs,Bgv,Bqt,Bqu]<|U [(8,jh [(2,B),(3,B),(5,C 80),(8,C 128),(9,B),(31,H)] [(80,Kb),(128,Kb)])]
def Q305:=fkl func7 (N [J c'2,J RF,J Vj,B]) (z [(8,C 128),(9,C 144),(10,B)] [(128,Wy),(144,Amf)]) HG [Bnh,Bnn,Bno,Bnp,Bqm,Bqn,Bqq,Bqv] (jl [(8,jh [(3,B),(4,C 64),(5,C 80),(6,C 96),(8,C 128),(9,C 144),(13,os)] [(64,c'2),(80,RF),(96,Vj),(128,Ab9),(144,Atd)]),(19,jh [(4,C 64),(5,C 80),(6,C 96),(8,C 128),(9,C 144),(15,C 240),(17,C 272),(18,B),(19,C 304),(74,V 70),(75,B),(76,B)] [(64,c'2),(80,RF),(96,Vj),(128,Ab9),(144,Atd),(240,Bav),(272,Amf),(304,Bsc)])]) (Z [(4,C 64),(5,C 80),(6,C 96),(8,C 128),(9,C 144),(15,C 240),(17,C 272),(74,V 70),(75,B),(76,B)] [(64,c'2),(80,RF),(96,Vj),(128,Ab9),(144,Atd),(240,Bav),(272,Amf)]) [xh 0 [(8,C 128),(9,C 144),(15,C 240),(17,C 272)] [(128,Ab9),(144,Atd),(240,Bav),(272,Amf)]] ND
def I306:Sp:=N []
def Bgo:SL:=W [(0,H)]
def S306_0:Sp:=Z [(1,C 16),(2,C 32),(3,B),(4,C 64),(5,B)] [(16,c'2),(32,Wy),(64,Vj)]
def Alz:SL:=[xt 0 [],rx [(0,H)]]
def Asm:=U [(12,jn [(0,H)]),(1048584,jh [(1,C 16),(2,C 32),(3,B),(4,C 64),(5,B)] [(16,c'2),(32,RF),(64,Vj)])]
def Asn:LP:=pl [lpX S306_0 Alz JW]
def t306:KS [(4,Q9.e),(6,Q10.e),(5,Q68.e),(8,Q73.e),(7,Q305.e),(26,Q112.e)]:=(tc Q9.k<|tc Q10.k<|tc Q68.k<|tc Q73.k<|tc Q305.k<|tc Q112.k tn)
def Bem(p0:(MT×Unit)->Option ((Unit×Unit)×(T'0×Unit)))(p1:((T'0×Int×Unit)×Unit)->Option ((List Int×Unit)×Unit))(p2:((T'0×List Int×Unit)×Unit)->Option ((Unit×Int×Unit)×(EQ×Unit)))(p3:(Aky×Unit)->Option ((Unit×Unit)×(NV×Unit)))(p4:(Akz×Unit)->Option (T'9×(EQ×NE×Unit)))(p5:((T'0×EQ×Unit)×Unit)->Option ((Bool×Unit)×Unit))(e i p6 p7 p8 p9:Int)(p10 p11 p12:Nat)(p13:List Car)(p14:List Int)(p15 p16:List Bool)(p17:List Entry)(p18 p19:ByteArray)(p20:Int)(p21:List Debounced)(p22:List Belief)(p23:List NewCar)(p24:List Loaded)(p25:List Int)(p26:List Calls)(p27 p28 p29:Int)(p30:List Relay)(p31:List Rig)(p32 p33 p34 p35:Int)(p36 p37:List Int)(p38:List Bool)(p39:List Nat)(p40:Bool):Option<|Sum (Bdj×Bdk)<|(Unit×Unit)⊕((Bool×Unit)×Unit):=letI a:=(0:Int);letI d:=((aF,()),());cond (decide<|i<30) (cond (e==a) (Option.bind (aB (((),(),e,(),i,()),((p6,p7,p8,p9,p10,p11,p12,p13,()),(p14,p15,p16,p17,p18,p19,p20,p21,p22,p23,p24,p25,p26,p27,p28,p29,p30,p31,()),(p32,p33,p34,p35,p36,p37,p38,p39,p40,()),()))) λy1=>letI b:=y1.2.2.2.1.2.2;letI f:=b.2.2;letI h:=f.2;(p4 ((y1.2.1,y1.2.2.1,y1.2.2.2.1,(1048576:Int),()),())).bind λy2=>letI g:=y2.2.2.1.2.2;letI c:=g.2.2.2.2.2.1;cond (y2.1.2.2.1 !=a) (aB<|aC<|aC d)<|cond ((c.length:Int) !=1) (aB<|aC<|aC d)<|cond (inB a c.length) (let z0:CarOutput:=c.getD a.toNat<|CarOutput.mk a a aF a a aF a a aF;cond ((z0.E3==2)&&((z0.X2==a)&&true)) (Option.bind (cond ((g.1==2)&&((g.2.1==a)&&true)) (cond (decide<|1<y1.1.2.2.2.2.1) ((p5 ((y1.2.1,y2.2.1,()),())).bind λy3=>aB ((y3.1.1,()),()))<|aB d)<|aB d) λy4=>aB<|aC<|aC ((y4.1.1,()),()))<|aB<|aG (((),(),y1.1.2.2.1,(),IntKind.i64.wrap<|y1.1.2.2.2.2.1+1,()),(y1.2.1,y2.2.1,(a,a,b.1,b.2.1,f.1,h.1,h.2.1,h.2.2.1,h.2.2.2.1,()),()))) none)<|aB<|aC<|aG ((),()))<|aB<|aC<|aG ((),())
def Bjn(h_l28_Building:(MT×Unit)->Option ((Unit×Unit)×(T'0×Unit)))(h_l28_floors:((T'0×Int×Unit)×Unit)->Option ((List Int×Unit)×Unit))(h_site_New:((T'0×List Int×Unit)×Unit)->Option ((Unit×Int×Unit)×(EQ×Unit)))(h_l28_pushes:(Aky×Unit)->Option ((Unit×Unit)×(NV×Unit)))(p4:(Akz×Unit)->Option (T'9×(EQ×NE×Unit)))(p5:((T'0×EQ×Unit)×Unit)->Option ((Bool×Unit)×Unit))(x:S306_0.T G):Ade (cfQ [(4,aE (G:=G) Q9.e.I Q9.e.E h_l28_Building Q9.e.rs),(6,aE (G:=G) Q10.e.I Q10.e.E h_l28_floors Q10.e.rs),(5,aE (G:=G) Q68.e.I Q68.e.E h_site_New Q68.e.rs),(8,aE (G:=G) Q73.e.I Q73.e.E h_l28_pushes Q73.e.rs),(7,aE (G:=G) Q305.e.I Q305.e.E p4 Q305.e.rs),(26,aE (G:=G) Q112.e.I Q112.e.E p5 Q112.e.rs)]) Asn Asm 69 1 (Pi (BV f9) 0) S306_0 Alz x=Bem h_l28_Building h_l28_floors h_site_New h_l28_pushes p4 p5 x.1.2.2.1 x.1.2.2.2.2.1 x.2.1.1 x.2.1.2.1 x.2.1.2.2.1 x.2.1.2.2.2.1 x.2.1.2.2.2.2.1 x.2.1.2.2.2.2.2.1 x.2.1.2.2.2.2.2.2.1 x.2.1.2.2.2.2.2.2.2.1 x.2.2.1.1 x.2.2.1.2.1 x.2.2.1.2.2.1 x.2.2.1.2.2.2.1 x.2.2.1.2.2.2.2.1 x.2.2.1.2.2.2.2.2.1 x.2.2.1.2.2.2.2.2.2.1 x.2.2.1.2.2.2.2.2.2.2.1 x.2.2.1.2.2.2.2.2.2.2.2.1 x.2.2.1.2.2.2.2.2.2.2.2.2.1 x.2.2.1.2.2.2.2.2.2.2.2.2.2.1 x.2.2.1.2.2.2.2.2.2.2.2.2.2.2.1 x.2.2.1.2.2.2.2.2.2.2.2.2.2.2.2.1 x.2.2.1.2.2.2.2.2.2.2.2.2.2.2.2.2.1 x.2.2.1.2.2.2.2.2.2.2.2.2.2.2.2.2.2.1 x.2.2.1.2.2.2.2.2.2.2.2.2.2.2.2.2.2.2.1 x.2.2.1.2.2.2.2.2.2.2.2.2.2.2.2.2.2.2.2.1 x.2.2.1.2.2.2.2.2.2.2.2.2.2.2.2.2.2.2.2.2.1 x.2.2.2.1.1 x.2.2.2.1.2.1 x.2.2.2.1.2.2.1 x.2.2.2.1.2.2.2.1 x.2.2.2.1.2.2.2.2.1 x.2.2.2.1.2.2.2.2.2.1 x.2.2.2.1.2.2.2.2.2.2.1 x.2.2.2.1.2.2.2.2.2.2.2.1 x.2.2.2.1.2.2.2.2.2.2.2.2.1:=κ
def Bj4:LK f9 Asn 0:=lk cx t306 Asm 1 S306_0 Alz (rfl:JW=_) κ (an0 κ) λx=>(Bjn (λx=>Fv x.1.1.1 x.1.1.2.1 x.1.1.2.2.1) (λx=>letI a:=x.1.1.2.2;letI b:=a.2.2;GV x.1.1.1 x.1.1.2.1 a.1 a.2.1 b.1 b.2.1 b.2.2.1 b.2.2.2.1 x.1.2.1) (λx=>letI a:=x.1.1.2.2;letI b:=a.2.2;Jd x.1.1.1 x.1.1.2.1 a.1 a.2.1 b.1 b.2.1 b.2.2.1 b.2.2.2.1 x.1.2.1) (λx=>letI a:=x.1.1.2.2;letI b:=a.2.2;GW x.1.1.1 x.1.1.2.1 a.1 a.2.1 b.1 b.2.1 b.2.2.1 b.2.2.2.1 x.1.2.1 x.1.2.2.1) (λx=>letI f:=x.1.2;letI d:=f.1.2.2;letI k:=d.2.2;letI a:=k.2.2.2;letI b:=f.2.1.2.2;letI c:=a.2.2.2.2;letI e:=x.1.1.2.2;letI g:=c.2.2;letI h:=b.2.2;letI j:=e.2.2;HG x.1.1.1 x.1.1.2.1 e.1 e.2.1 j.1 j.2.1 j.2.2.1 j.2.2.2.1 f.1.1 f.1.2.1 d.1 d.2.1 k.1 k.2.1 k.2.2.1 a.1 a.2.1 a.2.2.1 a.2.2.2.1 c.1 c.2.1 g.1 g.2.1 g.2.2.1 g.2.2.2.1 g.2.2.2.2.1 f.2.1.1 f.2.1.2.1 b.1 b.2.1 h.1 h.2.1 h.2.2.1 h.2.2.2.1 h.2.2.2.2.1 f.2.2.1) (λx=>letI c:=x.1.2.1.2.2;letI g:=c.2.2;letI a:=g.2.2.2;letI b:=a.2.2.2.2;letI d:=x.1.1.2.2;letI e:=b.2.2;letI f:=d.2.2;IL x.1.1.1 x.1.1.2.1 d.1 d.2.1 f.1 f.2.1 f.2.2.1 f.2.2.2.1 x.1.2.1.1 x.1.2.1.2.1 c.1 c.2.1 g.1 g.2.1 g.2.2.1 a.1 a.2.1 a.2.2.1 a.2.2.2.1 b.1 b.2.1 e.1 e.2.1 e.2.2.1 e.2.2.2.1 e.2.2.2.2.1) x).trans κ
def Bm1(p0:(MT×Unit)->Option ((Unit×Unit)×(T'0×Unit)))(p1:((T'0×Int×Unit)×Unit)->Option ((List Int×Unit)×Unit))(p2:((T'0×List Int×Unit)×Unit)->Option ((Unit×Int×Unit)×(EQ×Unit)))(p3:(Aky×Unit)->Option ((Unit×Unit)×(NV×Unit)))(p4:(Akz×Unit)->Option (T'9×(EQ×NE×Unit)))(p5:((T'0×EQ×Unit)×Unit)->Option ((Bool×Unit)×Unit)) :Option<|(Bool×Unit)×Unit:=letI b:=(0:Int);letI d:=(b,());(p0 ((((2:Int),b,d),()),())).bind λy1=>(p1 ((y1.2.1,d),())).bind λy2=>(p2 ((y1.2.1,y2.1.1,()),())).bind λy3=>(p3 ((y1.2.1,([]:List Int),d),())).bind λy4=>letI a:=y4.2.1.2.2.2;letI c:=a.2;letI e:=c.2;(JW (((),(),y3.1.2.1,(),d),(y1.2.1,y3.2.1,((2:Int),b,y4.2.1.2.2.1,a.1,c.1,e.1,e.2.1,e.2.2.1,e.2.2.2.1,()),()))).bind λy5=>match y5 with|.inl y6=>aB ((aF,()),())|.inr y6=>aB ((y6.1.1,()),())
def Bst(p0:(MT×Unit)->Option ((Unit×Unit)×(T'0×Unit)))(p1:((T'0×Int×Unit)×Unit)->Option ((List Int×Unit)×Unit))(p2:((T'0×List Int×Unit)×Unit)->Option ((Unit×Int×Unit)×(EQ×Unit)))(p3:(Aky×Unit)->Option ((Unit×Unit)×(NV×Unit)))(h_site_Step:(Akz×Unit)->Option (T'9×(EQ×NE×Unit)))(h_site_IsSite:((T'0×EQ×Unit)×Unit)->Option ((Bool×Unit)×Unit))(x:I306.T G):WM (cfQ [(4,aE (G:=G) Q9.e.I Q9.e.E p0 Q9.e.rs),(6,aE (G:=G) Q10.e.I Q10.e.E p1 Q10.e.rs),(5,aE (G:=G) Q68.e.I Q68.e.E p2 Q68.e.rs),(8,aE (G:=G) Q73.e.I Q73.e.E p3 Q73.e.rs),(7,aE (G:=G) Q305.e.I Q305.e.E h_site_Step Q305.e.rs),(26,aE (G:=G) Q112.e.I Q112.e.E h_site_IsSite Q112.e.rs)]) Asn Asm 69 (BV f9) I306 Bgo x=Bm1 p0 p1 p2 p3 h_site_Step h_site_IsSite:=κ
def e306:Fe G:=fe f9 I306 Bgo KB
def Bsk:K 9 e306:=fk cx t306 Asm (lp:=Asn) func9 κ κ rfl (aa<|CN Bj4 Fw) λx=>(Bst (λx=>Fv x.1.1.1 x.1.1.2.1 x.1.1.2.2.1) (λx=>letI a:=x.1.1.2.2;letI b:=a.2.2;GV x.1.1.1 x.1.1.2.1 a.1 a.2.1 b.1 b.2.1 b.2.2.1 b.2.2.2.1 x.1.2.1) (λx=>letI a:=x.1.1.2.2;letI b:=a.2.2;Jd x.1.1.1 x.1.1.2.1 a.1 a.2.1 b.1 b.2.1 b.2.2.1 b.2.2.2.1 x.1.2.1) (λx=>letI a:=x.1.1.2.2;letI b:=a.2.2;GW x.1.1.1 x.1.1.2.1 a.1 a.2.1 b.1 b.2.1 b.2.2.1 b.2.2.2.1 x.1.2.1 x.1.2.2.1) (λx=>letI f:=x.1.2;letI d:=f.1.2.2;letI k:=d.2.2;letI a:=k.2.2.2;letI b:=f.2.1.2.2;letI c:=a.2.2.2.2;letI e:=x.1.1.2.2;letI g:=c.2.2;letI h:=b.2.2;letI j:=e.2.2;HG x.1.1.1 x.1.1.2.1 e.1 e.2.1 j.1 j.2.1 j.2.2.1 j.2.2.2.1 f.1.1 f.1.2.1 d.1 d.2.1 k.1 k.2.1 k.2.2.1 a.1 a.2.1 a.2.2.1 a.2.2.2.1 c.1 c.2.1 g.1 g.2.1 g.2.2.1 g.2.2.2.1 g.2.2.2.2.1 f.2.1.1 f.2.1.2.1 b.1 b.2.1 h.1 h.2.1 h.2.2.1 h.2.2.2.1 h.2.2.2.2.1 f.2.2.1) (λx=>letI c:=x.1.2.1.2.2;letI g:=c.2.2;letI a:=g.2.2.2;letI b:=a.2.2.2.2;letI d:=x.1.1.2.2;letI e:=b.2.2;letI f:=d.2.2;IL x.1.1.1 x.1.1.2.1 d.1 d.2.1 f.1 f.2.1 f.2.2.1 f.2.2.2.1 x.1.2.1.1 x.1.2.1.2.1 c.1 c.2.1 g.1 g.2.1 g.2.2.1 a.1 a.2.1 a.2.2.1 a.2.2.2.1 b.1 b.2.1 e.1 e.2.1 e.2.2.1 e.2.2.2.1 e.2.2.2.2.1) x).trans κ
def I307:Sp:=N [J [c1,c1,c1],V 5,o1]
def E307:SL:=W [(6,H)]
def S307_0:Sp:=Z [(1,V 5),(7,C 112),(8,C 128),(9,B),(10,B)] [(112,c'2),(128,Wy)]
def Al0:SL:=[xt 0 [],rx [(6,H)]]
def S307_1:Sp:=Z [(1,V 5),(7,C 112),(8,C 128),(9,B),(10,B),(11,C 176),(12,C 192),(14,B)] [(112,c'2),(128,RF),(176,Wy),(192,Amf)]
def Al1:SL:=[xh 2 [(1,V 5),(7,C 112),(8,C 128),(9,B),(10,B),(11,C 176)] [(112,c'2),(128,RF),(176,Wy)],rx [(6,H)]]
def Agc:=U [(1048582,jh [(1,V 5),(7,C 112),(8,C 128),(9,B),(10,B)] [(112,c'2),(128,RF)])]
def Agf:LP:=pl [lpX S307_0 Al0 Gd,lpX S307_1 Al1 Ge]
def t307:KS [(4,Q9.e),(6,Q10.e),(5,Q68.e),(8,Q73.e),(7,Q305.e),(9,e306)]:=(tc Q9.k<|tc Q10.k<|tc Q68.k<|tc Q73.k<|tc Q305.k<|tc Bsk tn)
def Beo(p0:(Unit×Unit)->Option ((Bool×Unit)×Unit))(l:List Int)(e i c p1 p2 p3 p4:Int)(p5 p6 p7:Nat)(p8:List Car)(p9:List Int)(p10 p11:List Bool)(p12:List Entry)(p13 p14:ByteArray)(p15:Int)(p16:List Debounced)(p17:List Belief)(p18:List NewCar)(p19:List Loaded)(p20:List Int)(p21:List Calls)(p22 p23 p24:Int)(p25:List Relay)(p26:List Rig)(p27:List Int)(p28 p29:List Bool)(p30:List Entry)(p31 p32:ByteArray)(p33:Int)(p34:List Debounced)(p35:List Belief)(p36:List NewCar)(p37:List Loaded)(p38:List Int)(p39:List Calls)(p40 p41 p42:Int)(p43:List Relay)(p44:List Rig)(p45 p46 p47 p48:Int)(p49 p50:Bool)(p51:Int)(p52:List CarOutput):Option<|Sum (Bdm×Bdn)<|(Bdo×Bdp)⊕((Bool×Unit)×Unit):=letI a:=(p27,p28,p29,p30,p31,p32,p33,p34,p35,p36,p37,p38,p39,p40,p41,p42,p43,p44,());letI b:=(p9,p10,p11,p12,p13,p14,p15,p16,p17,p18,p19,p20,p21,p22,p23,p24,p25,p26,());letI d:=(0:Int);letI f:=(p1,p2,p3,p4,p5,p6,p7,p8,());cond (decide<|c<(p52.length:Int)) (cond (inB c p52.length) (cond (p52.getD c.toNat<|CarOutput.mk d d aF d d aF d d aF).K4 (aB<|aC<|aC ((aF,()),()))<|aB<|aG ((l,(),(),e,i,(),(),IntKind.i64.wrap<|c+1,()),(f,b,a,(p45,p46,p47,p48,p49,p50,p51,p52,()),()))) none)<|aB<|aC<|aG ((l,(),(),e,i,(),()),(f,b,a,()))
def Bjp(h_l28_sane:(Unit×Unit)->Option ((Bool×Unit)×Unit))(x:S307_1.T G):Ade (cfQ [(4,Q9.e),(6,Q10.e),(5,Q68.e),(8,Q73.e),(7,Q305.e),(9,aE (G:=G) e306.I e306.E h_l28_sane e306.rs)]) Agf Agc 70 2 (Pi (BV f3) 1) S307_1 Al1 x=(letI c:=x.2.2;letI j:=c.2.1.2;letI q:=j.2.2;letI a:=q.2.2.2;letI h:=c.1.2.2;letI o:=h.2.2;letI b:=o.2.2.2;letI r:=a.2.2;letI d:=r.2.2.2;letI e:=b.2.2.2.2;letI f:=c.2.2.1.2;letI g:=x.2.1.2.2;letI k:=e.2.2;letI l:=d.2.2;letI m:=f.2.2;letI n:=g.2.2;Beo h_l28_sane x.1.1 x.1.2.2.2.1 x.1.2.2.2.2.1 x.1.2.2.2.2.2.2.2.1 x.2.1.1 x.2.1.2.1 g.1 g.2.1 n.1 n.2.1 n.2.2.1 n.2.2.2.1 c.1.1 c.1.2.1 h.1 h.2.1 o.1 o.2.1 o.2.2.1 b.1 b.2.1 b.2.2.1 b.2.2.2.1 e.1 e.2.1 k.1 k.2.1 k.2.2.1 k.2.2.2.1 k.2.2.2.2.1 c.2.1.1 j.1 j.2.1 q.1 q.2.1 q.2.2.1 a.1 a.2.1 r.1 r.2.1 r.2.2.1 d.1 d.2.1 l.1 l.2.1 l.2.2.1 l.2.2.2.1 l.2.2.2.2.1 c.2.2.1.1 f.1 f.2.1 m.1 m.2.1 m.2.2.1 m.2.2.2.1 m.2.2.2.2.1):=κ
def Axv:LK f3 Agf 1:=lk cx t307 Agc 2 S307_1 Al1 (rfl:Ge=_) κ (an0 κ) λx=>(Bjp (λ_=>KB) x).trans κ
def Ben(p0:(Unit×Unit)->Option ((Bool×Unit)×Unit))(l:List Int)(e i p1 p2 p3 p4:Int)(p5 p6 p7:Nat)(p8:List Car)(p9:List Int)(p10 p11:List Bool)(p12:List Entry)(p13 p14:ByteArray)(p15:Int)(p16:List Debounced)(p17:List Belief)(p18:List NewCar)(p19:List Loaded)(p20:List Int)(p21:List Calls)(p22 p23 p24:Int)(p25:List Relay)(p26:List Rig):Option<|Sum (Bdl×(T'0×EQ×Unit))<|(Unit×Unit)⊕((Bool×Unit)×Unit):=letI o:=((aF,()),());cond (decide<|i<250) (Option.bind (aB ((l,(),(),e,i,()),((p1,p2,p3,p4,p5,p6,p7,p8,()),(p9,p10,p11,p12,p13,p14,p15,p16,p17,p18,p19,p20,p21,p22,p23,p24,p25,p26,()),()))) λy1=>letI d:=y1.2.2.1;letI h:=d.2.2;letI s:=h.2;letI v:=s.2;letI a:=v.2.2.2;letI k:=y1.2.1;letI q:=k.2;letI b:=q.2.2;letI w:=a.2;letI c:=w.2.2.2;letI g:=b.2;letI j:=g.2;letI m:=c.2.2;letI n:=y1.1.2.2.2;letI r:=j.2;letI aa:=m.2;(GW k.1 q.1 q.2.1 b.1 g.1 j.1 r.1 r.2.1 y1.1.1 n.2.1).bind λy2=>letI f:=y2.2.1.2.2.2;letI u:=f.2;letI ab:=u.2;(HG k.1 q.1 q.2.1 b.1 g.1 j.1 r.1 r.2.1 d.1 d.2.1 h.1 s.1 v.1 v.2.1 v.2.2.1 a.1 w.1 w.2.1 w.2.2.1 c.1 c.2.1 m.1 aa.1 aa.2.1 aa.2.2.1 aa.2.2.2.1 y2.2.1.1 y2.2.1.2.1 y2.2.1.2.2.1 f.1 u.1 ab.1 ab.2.1 ab.2.2.1 ab.2.2.2.1 1048576).bind λy3=>cond (n.1 !=0) (aB<|aC<|aC o)<|cond (y3.1.2.2.1 !=0) (aB<|aC<|aC o)<|cond ((y3.2.2.1.2.2.2.2.2.2.2.1.length:Int) !=(r.2.1.length:Int)) (aB<|aC<|aC o) ((Ge ((y1.1.1,(),(),n.1,n.2.1,(),(),(0:Int),()),(k,d,y3.2.1,y3.2.2.1,()))).bind λy4=>match y4 with|.inl y5=>aB (aG ((y5.1.1,(),(),y5.1.2.2.2.1,IntKind.i64.wrap<|y5.1.2.2.2.2.1+1,()),(y5.2.1,y5.2.2.2.1,())))|.inr y5=>aB<|aC<|aC ((y5.1.1,()),())))<|aB<|aC<|aG ((),())
def Bjo(h_l28_sane:(Unit×Unit)->Option ((Bool×Unit)×Unit))(x:S307_0.T G):Ade (cfQ [(4,Q9.e),(6,Q10.e),(5,Q68.e),(8,Q73.e),(7,Q305.e),(9,aE (G:=G) e306.I e306.E h_l28_sane e306.rs)]) Agf Agc 70 1 (Pi (BV f3) 0) S307_0 Al0 x=(letI c:=x.2.2.1.2.2;letI g:=c.2.2;letI a:=g.2.2.2;letI b:=a.2.2.2.2;letI d:=x.2.1.2.2;letI e:=b.2.2;letI f:=d.2.2;Ben h_l28_sane x.1.1 x.1.2.2.2.1 x.1.2.2.2.2.1 x.2.1.1 x.2.1.2.1 d.1 d.2.1 f.1 f.2.1 f.2.2.1 f.2.2.2.1 x.2.2.1.1 x.2.2.1.2.1 c.1 c.2.1 g.1 g.2.1 g.2.2.1 a.1 a.2.1 a.2.2.1 a.2.2.2.1 b.1 b.2.1 e.1 e.2.1 e.2.2.1 e.2.2.2.1 e.2.2.2.2.1):=κ
def Bj5:LK f3 Agf 0:=lk cx t307 Agc 1 S307_0 Al0 (rfl:Gd=_) κ (aa<|CN Axv Fw) λx=>(Bjo (λ_=>KB) x).trans κ
def Bm2(p0:(Unit×Unit)->Option ((Bool×Unit)×Unit))(p1 p2 p3:Int)(l:List Int)(p4:Int):Option<|(Bool×Unit)×Unit:=(Fv p1 p2 p3).bind λy1=>letI d:=y1.2.1;letI a:=d.2.2;letI b:=a.2.2;letI c:=b.2;letI e:=c.2;(GV d.1 d.2.1 a.1 a.2.1 b.1 c.1 e.1 e.2.1 p4).bind λy2=>(Jd d.1 d.2.1 a.1 a.2.1 b.1 c.1 e.1 e.2.1 y2.1.1).bind λy3=>(Gd ((l,(),(),y3.1.2.1,(0:Int),()),(d,y3.2.1,()))).bind λy4=>match y4 with|.inl y5=>(p0 ((),())).bind λy6=>aB ((y6.1.1,()),())|.inr y5=>aB ((y5.1.1,()),())
def Bsu(p0:(Unit×Unit)->Option ((Bool×Unit)×Unit))(x:I307.T G):WM (cfQ [(4,Q9.e),(6,Q10.e),(5,Q68.e),(8,Q73.e),(7,Q305.e),(9,aE (G:=G) e306.I e306.E p0 e306.rs)]) Agf Agc 70 (BV f3) I307 E307 x=Bm2 p0 x.1.1.1 x.1.1.2.1 x.1.1.2.2.1 x.1.2.1 x.1.2.2.1:=κ
def e307:Fe G:=fe f3 I307 E307 F_l28_SiteKeeps
def k307:K 3 e307:=fk cx t307 Agc (lp:=Agf) func3 κ κ rfl (aa<|CN Bj5<|CN Axv Fw) λx=>(Bsu (λ_=>KB) x).trans κ
end
end Go.Ovl
