import Derived.Test.YtnaickmgbfjbkaaGreatDoorAbA
import Derived.Maps.AppendAt
import Derived.Laws.BytesString
import Derived.Laws.Externs
set_option linter.all false
open Option renaming some->A,none->C,map_none->aJ
open Go.Ab.M renaming fail->I,ret->J,bindneed->L,bindopt->V,bind_spec->aC
open Bool renaming true->N
open Go.Ab renaming Out->O,Blk->W,get->Y,Runs->Z,bindC->aB
open Go.Ab.CSh renaming take->U
open Nat renaming min->X,beq->aD,blt->aF,min_le_left->aH
open Go.Ab.Runs renaming outV->aA,outP->aE
open Array renaming range->aG
open List renaming getElem?_range->aI
namespace Go.Ab
variable{G:Sig}
variable{x:Operand}{t:Nat}
def Lg:List Value->List Value->Option Bool
 |[],[]=>A N
 |a::as,b::bs=>
  match eqV a b,Lg as bs with
  |some x,A y=>A (x&&y)
  |_,_=>C
 |_,_=>C
structure EqOK(P:Program)(G:Sig):Prop where
 guard:∀t,(G.ty t).isAgg=true->P.eqGuardType P.depth t=false
 eq:∀t (xs ys:List Value) b w,(G.ty t).isAgg=true->RP G 20 t=true->Cp Bd xs=zk G t->Cp Bd ys=zk G t->Lg xs ys=some b->(Op.equal t (.agg xs.toArray) (.agg ys.toArray)).run P w=.ok b w
section
variable{P:Program}{ν:Nat->Option Value}{S B:Nat->Prop}{h:Nat->Option (W G.T)}{w:World}{ρ:Operand->Value}{o:Oper}
variable(ok:SigOK P G){ev:Operand->Option (Sv G.T)}(hev:∀x s,ev x=A s->Rs G ν S w.heap s (ρ x))(hr:HRel G ν S B h w)(hB:∀b,w.heap.size<=b->B b)
 {cf:BW G}{nm:Nat}{out:O G}(hfresh:∀n∈out.nw,ν n=C)
include hev hr ok
theorem Ain{i:Operand}(ho:o.op=.indexAddr t x i)(hact:Ed ev h t x i (O G) A=A out):Z P G ρ o ν S B h w out:=by
 unfold Ed at hact;cases ht:G.ty t with
 |arr n e=>
  simp only[ht]at hact;obtain⟨c,hc,hact⟩:=aB hact;obtain⟨k,j,hj,hact⟩:=Ag hact;obtain⟨hu,he⟩:=ok.arr t n e ht;cases c with
  |ptr b off=>simp only[ixA]at hact;obtain⟨hb,hact⟩:=L hact;simp[J]at hact;subst hact;obtain⟨h0,h1⟩:=NH hb;obtain⟨b',hb',hv⟩:=FF hev hc;have hρ:=(DN hev hj).1;refine aE hr (v:=.pointer (A ⟨b',off+j.toNat*G.sz e,C⟩)) ?_ (.one _ _ ⟨ω,b',hb',rfl⟩);unfold execOp;rw[ho];simp only[Instr.indexAt,hρ,asIntOf,z_,a4_,q_,A_ hu w,hv,Instr.sureAddr,Sem.run_ite,ok.sizeOf w he,FK];rw[if_pos ⟨h0,h1⟩];rfl
  |pr b t' j' off=>simp only[ixA]at hact;obtain⟨hb,hact⟩:=L hact;simp[J]at hact;subst hact;obtain⟨h0,h1⟩:=NH hb;obtain⟨b',len,cap,hb',hlt,hv⟩:=FF hev hc;have hρ:=(DN hev hj).1;refine aE hr (v:=.pointer (A ⟨b',j'*G.sz t'+off+j.toNat*G.sz e,C⟩)) ?_ (.one _ _ ⟨b',len,cap,hb',hlt,by rw[T_]⟩);unfold execOp;rw[ho];simp only[Instr.indexAt,hρ,asIntOf,z_,a4_,q_,A_ hu w,hv,Instr.sureAddr,Sem.run_ite,ok.sizeOf w he,FK];rw[if_pos ⟨h0,h1⟩];rfl
  |rp t' x' off=>
   simp only[ixA]at hact;obtain⟨hb,hact⟩:=L hact;obtain⟨cs,hcs,hact⟩:=V hact;obtain⟨y,hy,hact⟩:=V hact;simp[J]at hact;subst hact;obtain⟨h0,h1⟩:=NH hb;have hρ:=(DN hev hj).1;have hrd:Rd G S w.heap (.rp t' x' off) (ρ x):=FF hev hc;generalize hvx:ρ x=vx at hrd;cases hrd with
   |rp _ _ _ b base c te fz vs hS hbk hcc hrr=>
    simp only[WY]at hcs;obtain⟨m1,m2⟩:=BU _ _ hcs;have hcell:∀q,q<G.sz e->∃z,cs[q]?=A z/\(G.enc t' x')[off+j.toNat*G.sz e+q]?=A z:=by
     intro q hq;obtain⟨z,hz,hf⟩:=m2 q q (by simp[hq]);split at hf
     .rename_i l hl;obtain⟨l1,l2⟩:=BU _ _ hl;have hil:j.toNat<l.length:=by simp at l1;omega
      have hsel:=Yh hf hil;obtain⟨y',hy',hq'⟩:=l2 j.toNat j.toNat (by rw[aI ω]);rw[hsel]at hy';cases hy';exact⟨z,hz,hq'⟩
     .simp at hf
    have hen:=ok.encdec e cs y hy;refine aE hr (v:=.pointer (A ⟨b,base+off+j.toNat*G.sz e,C⟩)) ?_ (.one _ _ ?_)
    .unfold execOp;rw[ho];simp only[Instr.indexAt,hρ,asIntOf,z_,a4_,q_,A_ hu w,hvx,Instr.sureAddr,Sem.run_ite,ok.sizeOf w he,FK];rw[if_pos ⟨h0,h1⟩];rfl
    .have:=Rd.rp (G:=G) (S:=S) (h:=w.heap) e y 0 b (base+off+j.toNat*G.sz e) c te fz (λq=>vs (off+j.toNat*G.sz e+q)) hS hbk (λq hq=>by
      obtain⟨z,_,hz⟩:=hcell q hq;have hlt:=(g_.1 hz).1
      have:=ok.encl t' x'
      rw[<-hcc _ ω];congr 1;omega) (λq cv hq=>by
      rw[hen]at hq;have hqs:q<G.sz e:=by have:=(g_.1 hq).1;simp at m1;omega
      obtain⟨z,hz1,hz2⟩:=hcell q hqs;rw[hz1]at hq;cases hq;exact hrr _ _ hz2)
     exact this
  |_=>simp[ixA,I]at hact
 |sl e=>
  simp only[ht]at hact;obtain⟨c,hc,hact⟩:=aB hact;obtain⟨k,j,hj,hact⟩:=Ag hact;obtain⟨hu,he,_⟩:=ok.sl t e ht;have hρ:=(DN hev hj).1;have key:∀(b off len cap:Nat),ρ x=.slice (A ⟨b,off,C⟩) len cap->0<=j->j<len->
    (execOp ρ o).run P w=.ok (.value (.pointer (A ⟨b,off+j.toNat*G.sz e,C⟩))) w:=by
   intro b off len cap hv h0 h1;unfold execOp;rw[ho];simp only[Instr.indexAt,hρ,asIntOf,z_,a4_,q_,A_ hu w,hv,Sem.run_ite,ok.sizeOf w he,FK];rw[if_pos ⟨h0,h1⟩];rfl
  cases c with
  |own m=>
   simp only[ixS]at hact;cases hm:h m with
   |none=>simp[hm,I]at hact
   |some blk=>
    cases blk with
    |cells cs=>simp[hm,I]at hact
    |row e' l=>
     simp only[hm]at hact;obtain⟨hee,ha1⟩:=L hact;obtain⟨hb,ha2⟩:=L ha1;have hee':=AA.1 hee;simp[J]at ha2;subst ha2;subst hee';obtain⟨h0,h1⟩:=NH hb;obtain⟨a,len,cap,hνm,hv⟩:=FF hev hc;rcases hr.blk m _ hm with⟨g1,g2⟩|⟨b,cap',c,te,g1,g2,g3,g4,g5⟩
     .subst g2;simp at h1;omega
     .rw[hνm]at g1;simp at g1;rw[g1]at hv hνm;refine Runs.value hr rfl (v:=.pointer (A ⟨b,0+j.toNat*G.sz e',C⟩)) (key b 0 _ _ g1 h0 h1) λs hs=>?_;simp at hs;subst hs;exact .p _ _ (.one _ _ ⟨b,_,_,hνm,ω,σ⟩)
  |ro e' l=>
   simp only[ixS]at hact;obtain⟨hee,ha1⟩:=L hact;obtain⟨hb,ha2⟩:=L ha1;have hee':=AA.1 hee;simp[J]at ha2;subst ha2;subst hee';obtain⟨h0,h1⟩:=NH hb;have hrc:Rd G S w.heap (.ro e' l) (ρ x):=FF hev hc;generalize hu':ρ x=u at hrc;cases hrc with
   |nil _ a cap=>simp at h1;omega
   |ro _ _ b off cap c te fz vs hS hb' _ hcap hcell hrd=>
    have hi:j.toNat<l.length:=ω;refine aE hr (key b off _ _ hu' h0 h1) (.one _ _ ?_)
    have:=Rd.rp (G:=G) (S:=S) (h:=w.heap) e' (l.getD j.toNat (G.dfl e')) 0 b (off+j.toNat*G.sz e') c te fz (λq=>vs j.toNat q) hS hb' (λq hq=>by rw[hcell _ _ hi hq])
     (λq cv hq=>hrd j.toNat q _ cv (by simp[hi]) hq)
    exact this
  |sa m off len=>simp only[ixS]at hact;obtain⟨hb,ha1⟩:=L hact;obtain⟨_,_,ha2⟩:=M.pick_spec ha1;simp[J]at ha2;subst ha2;obtain⟨h0,h1⟩:=NH hb;obtain⟨b,g1,g2⟩:=FF hev hc;exact aE hr (key b off _ _ g2 h0 h1) (.one _ _ ⟨b,g1,rfl⟩)
  |_=>simp[ixS,I]at hact
 |_=>simp[ht,I]at hact
theorem Auq{i:Operand}(ho:o.op=.index t x i)(hact:QY ev t x i (O G) A=A out):Z P G ρ o ν S B h w out:=by
  unfold QY at hact;cases ht:G.ty t with
  |arr n e=>
    simp only[ht]at hact;obtain⟨c,hc,hact⟩:=SC hact;obtain⟨k,j,hj,hact⟩:=Ag hact;have hrp:=Ug hev hc;generalize hu:ρ x=u at hrp;cases hrp with
    |one c v hc'=>simp[Al4,I]at hact
    |agg ds vs hf2=>
    simp only[Al4]at hact;obtain⟨hb,hact⟩:=L hact;obtain⟨h0,h1⟩:=NH hb;obtain⟨hun,he⟩:=ok.arr t n e ht;have hρ:=(DN hev hj).1;have hpos:=ok.pos _ he;have key:∃cs y,RR G e cs=A y/\out=outP y/\cs.length=G.sz e/\∀q,q<G.sz e->∃z,cs[q]?=A z/\ds[j.toNat*G.sz e+q]?=A z:=by
     cases hca:Bfb ds with
     |true=>rw[hca]at hact;obtain⟨_,_,hact⟩:=M.pick_spec hact;unfold Bkf at hact;obtain⟨cs,hcs,hact⟩:=V hact;obtain⟨y,hy,hact⟩:=V hact;simp[J]at hact;subst hact;obtain⟨p1,p2,p3⟩:=NK hcs;exact⟨cs,y,hy,rfl,p1,λq hq=>⟨cs[q]'ω,j_ _,by rw[<-p3 q hq];exact j_ _⟩⟩
     |false=>
      rw[hca]at hact;obtain⟨cs,hcs,hact⟩:=V hact;obtain⟨y,hy,hact⟩:=V hact;simp[J]at hact;subst hact;simp only[WY]at hcs;obtain⟨m1,m2⟩:=BU _ _ hcs;refine⟨cs,y,hy,rfl,by simpa using m1,λq hq=>?_⟩;obtain⟨z,hz,hf⟩:=m2 q q (by simp[hq]);split at hf
      · rename_i l hl
        obtain⟨l1,l2⟩:=BU _ _ hl;have hil:j.toNat<l.length:=by simp at l1;omega
        have hsel:=Yh hf hil;obtain⟨z',hz',hg⟩:=l2 j.toNat j.toNat (by rw[aI ω]);rw[hsel]at hz';cases hz';exact⟨z,hz,hg⟩
      · cases hf
    obtain⟨cs,y,hy,rfl,hcl,hcell⟩:=key;have hlen:=hf2.1;have hle:j.toNat*G.sz e+G.sz e<=vs.length:=by
      obtain⟨z,_,hz⟩:=hcell (G.sz e-1) ω
      have:=(g_.1 hz).1
      omega
    have hF:F2 (Rc G ν S w.heap) cs ((vs.drop (j.toNat*G.sz e)).take (G.sz e)):=by
      refine⟨by simp;omega,λi a b ha hb=>?_⟩;have hi:i<G.sz e:=by have:=(g_.1 ha).1;omega
      obtain⟨z,hz,hdz⟩:=hcell i hi;rw[hz]at ha;cases ha;rw[t_ hi,b8_]at hb;exact hf2.2 _ _ b hdz hb
    refine aE hr (v:=if(G.ty e).isAgg then .agg ((vs.drop (j.toNat*G.sz e)).take (G.sz e)).toArray else((vs.drop (j.toNat*G.sz e)).take (G.sz e)).getD 0 undef) ?_ (QL hy hF);unfold execOp;rw[ho];simp only[Instr.index,hρ,asIntOf,z_,a4_,q_,A_ hun w,hu,Sem.run_ite,ok.sizeOf w he,Go.part,ok.isAgg w he];rw[if_pos ⟨h0,h1⟩];cases ha:(G.ty e).isAgg with
    |true=>simp
    |false=>have hlt:j.toNat*G.sz e<vs.length:=ω;rw[List.getD,t_ hpos];simp[hlt]
  |str=>
    simp only[ht]at hact;obtain⟨c,hc,hact⟩:=aB hact;obtain⟨k,j,hj,hact⟩:=Ag hact;unfold ixV at hact;cases c with
    |sc v=>
      cases v with
      |string s=>
      obtain⟨hb,hact⟩:=L hact;simp[J]at hact;subst hact;obtain⟨h0,h1⟩:=NH hb;have hρ:=(DN hev hj).1;have hρ':=(DN hev hc).1;refine aA hr ?_ rfl;have hlt:j.toNat<s.data.size:=by
        have:(s.size:Int)=s.data.size:=rfl
        omega
      have hget:(s[j.toNat]?:Option UInt8)=A (s.data[j.toNat]):=by
        have:j.toNat<s.size:=hlt
        simp[getElem?_pos,this];rfl
      unfold execOp;rw[ho];simp only[Instr.index,hρ,hρ',asIntOf,z_,a4_,q_,A_ (ok.str t ht) w,h0,if_true,hget,Bu];rw[r_,a6_ hlt];rfl
      |_=>simp[I]at hact
    |_=>simp[I]at hact
  |_=>simp[ht,I]at hact
omit ok
theorem Ak2{f:Nat}{a b:Array Operand}(ho:o.op=.makeFunc (.func f) a b)(hact:UT ev f a.toList b.toList (O G) A=A out):Z P G ρ o ν S B h w out:=by
 unfold UT at hact;obtain⟨as,hact,ha⟩:=Afo hact;obtain⟨bs,hact,hb⟩:=Afo hact;obtain⟨as',ha',hact⟩:=V hact;obtain⟨bs',hb',hact⟩:=V hact;simp[J]at hact;subst hact;have key:∀(xs:List Operand) (ys:List (Pv G.T)) (zs:List (Nat×Nat)),F2 (λx y=>ev x=A (.p y)) xs ys->Cq Al8 ys=A zs->F2 (RPtr ν) zs (xs.map ρ):=by
  intro xs ys zs hF hm;obtain⟨m1,m2⟩:=BU _ _ hm;refine⟨by simp[m1,hF.1],λi z v hz hv=>?_⟩;rw[b7_]at hv;cases hx:xs[i]? with
  |none=>simp[hx]at hv
  |some x=>
   simp[hx]at hv;subst hv;obtain⟨y,hy,hxy⟩:=hF.get hx;obtain⟨z',hz',hp⟩:=m2 i y hy;rw[hz]at hz';simp at hz';subst hz';unfold Al8 at hp;split at hp
   .rename_i n off;simp at hp;subst hp;exact FF hev hxy
   .simp at hp
 refine aE hr (v:=.func (.func f) (a.toList.map ρ).toArray (b.toList.map ρ).toArray) ?_ (.one _ _ ⟨_,_,rfl,key _ _ _ ha ha',key _ _ _ hb hb'⟩);unfold execOp;rw[ho];simp[Instr.makeFunc,<-Array.toList_map]
omit hr
theorem SF{R:Type}{r:R}{k:Nat->Option R}{d m:Nat}{x:Option Operand}(hx:EO ev d m x R k=A r) :
  ∃n,k n=A r/\((x=C/\n=d)\/∃y kd,x=A y/\ρ y=.int kd (n:Int)/\n<=m):=by
 cases x with
 |none=>exact⟨d,hx,.inl ⟨rfl,rfl⟩⟩
 |some y=>
  unfold EO at hx;obtain⟨kd,i,hi,hx⟩:=Ag hx;obtain⟨hb,hx⟩:=L hx;simp at hb
  have:=(DN hev hi).1
  exact⟨i.toNat,hx,.inr ⟨y,kd,rfl,by rw[this];congr 1;omega,ω⟩⟩
omit hev in
theorem Ahd{isS:Bool}{len cap m a b:Nat}{lo hi:Option Operand}(hb:(hi=C/\b=len)\/∃y kd,hi=A y/\ρ y=.int kd (b:Int)/\b<=m)(hm:m<=cap)
  (ha:(lo=C/\a=0)\/∃y kd,lo=A y/\ρ y=.int kd (a:Int)/\a<=b) :
  (Instr.sliceBounds isS len cap (lo.map ρ) (hi.map ρ) C).run P w=.ok (a,b,cap) w:=by
 have one:∀(kd:IntKind) (n y:Nat) (code:BoundsCode),n<=y->(Instr.sliceBound (.int kd (n:Int)) y code).run P w=.ok n w:=by
  intro kd n y code hn
  have:(0:Int)<=(n:Int)/\(n:Int)<=(y:Int):=ω
  simp[Instr.sliceBound,asIntOf,this]
 unfold Instr.sliceBounds;rcases hb with⟨rfl,rfl⟩|⟨y,kd,rfl,hy,hyb⟩<;>rcases ha with⟨rfl,rfl⟩|⟨z,kd',rfl,hz,hza⟩
 .simp
 .simp[hz,one _ _ _ _ hza]
 .simp[hy,one _ _ _ _ (d8_ hyb hm)]
 .simp[hy,hz,one _ _ _ _ (d8_ hyb hm),one _ _ _ _ hza]
include hr ok
theorem Av2{lo hi mx:Option Operand}(ho:o.op=.slice t x lo hi mx)(hact:QZ ev t x lo hi mx (O G) A=A out):Z P G ρ o ν S B h w out:=by
 unfold QZ at hact;cases mx with
 |some y=>simp[I]at hact
 |none=>
 simp only at hact;cases ht:G.ty t with
 |str=>
  simp only[ht]at hact;obtain⟨c,hc,hact⟩:=aB hact;unfold WV at hact;cases c with
  |sc v=>
   cases v with
   |string s=>obtain⟨b,h1,hb⟩:=SF hev (aC hact);obtain⟨a,h2,ha⟩:=SF hev (aC h1);simp[J]at h2;subst h2;have hρ:=(DN hev hc).1;refine aA hr ?_ rfl;unfold execOp;rw[ho];simp only[Instr.sliceAt,Instr.slice,hρ,z_,q_,A_ (ok.str t ht) w,aJ];simp[Ahd (P:=P) (w:=w) (isS:=false) hb (H_ _) ha]
   |_=>simp[I]at hact
  |_=>simp[I]at hact
 |sl e=>
  simp only[ht]at hact;obtain⟨c,hc,hact⟩:=aB hact;obtain⟨hu,he,_⟩:=ok.sl t e ht;unfold WU at hact;cases c with
  |ro e' l=>
   obtain⟨hee,h0⟩:=L hact;have hee':=AA.1 hee;obtain⟨b,h1,hb⟩:=SF hev (aC h0);obtain⟨a,h2,ha⟩:=SF hev (aC h1);simp[J]at h2;subst h2;subst hee';have hbl:b<=l.length:=by rcases hb with⟨_,rfl⟩|⟨_,_,_,_,hb⟩<;>omega
   have hab:a<=b:=by rcases ha with⟨_,rfl⟩|⟨_,_,_,_,ha⟩<;>omega
   have hrun:∀(a0:Option Addr) (cap:Nat),l.length<=cap->ρ x=.slice a0 l.length cap->
     (execOp ρ o).run P w=.ok (.value (.slice (if cap=a then a0 else a0.map (·.add (a*G.sz e'))) (b-a) (cap-a))) w:=by
    intro a0 cap hcap hv;unfold execOp;rw[ho];simp only[Instr.sliceAt,Instr.slice,hv,z_,q_,A_ hu w,aJ];simp[Ahd (P:=P) (w:=w) (isS:=N) hb hcap ha,ok.sizeOf w he]
   have hrc:Rd G S w.heap (.ro e' l) (ρ x):=FF hev hc;generalize hux:ρ x=u at hrc;have hll:((l.take b).drop a).length=b-a:=by simp;omega
   have fin:∀v,Rd G S w.heap (.ro e' ((l.take b).drop a)) v->(execOp ρ o).run P w=.ok (.value v) w->Z P G ρ o ν S B h w (outP (.one (.ro e' ((l.take b).drop a)))):=λv hv hx=>aE hr hx (.one _ _ hv);cases hrc with
   |nil _ a0 cap=>
    have hb0:b=0:=by simpa using hbl
    have ha0:a=0:=ω;subst hb0;subst ha0;refine fin _ ?_ (hrun a0 cap σ (by simpa using hux));simp;exact .nil _ _ _
   |ro _ _ bb off cap c te fz vs hS hb' hte hcap hcell hrd=>
    refine fin _ ?_ (hrun _ cap hcap hux);by_cases hz:b=a
    .have:(l.take b).drop a=[]:=P_ (by rw[hll];omega)
     rw[this,show b-a=0 by omega];exact .nil _ _ _
    .rw[if_neg ω];simp only[e2_,FK];rw[<-hll];refine .ro e' _ bb (off+a*G.sz e') (cap-a) c te fz (λi j=>vs (a+i) j) hS hb' hte (by rw[hll];omega) (λi j hi hj=>?_) (λi j x' cv hx' hcv=>?_)
     .rw[hll]at hi;rw[<-hcell (a+i) j ω hj];congr 1;rw[a0_];omega
     .have hi:i<b-a:=by have:=(g_.1 hx').1;omega
      rw[b8_,t_ ω]at hx';exact hrd (a+i) j x' cv hx' hcv
  |_=>simp[I]at hact
 |arr n e=>
  simp only[ht]at hact;obtain⟨c,hc,hact⟩:=aB hact;obtain⟨hu,he⟩:=ok.arr t n e ht;unfold Apk at hact;cases c with
  |ptr b off=>
   cases lo with
   |some _=>simp[I]at hact
   |none=>
    cases hi with
    |some _=>simp[I]at hact
    |none=>simp[J]at hact;subst hact;obtain⟨b',hb',hv⟩:=FF hev hc;refine aE hr (v:=.slice (A ⟨b',off,C⟩) n n) ?_ (.one _ _ ⟨b',hb',rfl⟩);unfold execOp;rw[ho];simp[Instr.sliceAt,Instr.sliceBounds,hv,A_ hu w,ok.sizeOf w he,Instr.sureAddr,FK]
  |_=>simp[I]at hact
 |_=>simp[ht,I]at hact
theorem Afv{s:Nat}(ho:o.op=.convert s t x)(hs:(!Nu (G.ty s))=N){c:Cv G.T}(hc:ev x=A (.p (.one c)))(h1:Abq (G.ty t) c (O G) A=A out):Z P G ρ o ν S B h w out:=by
 have hsu:∃d,P.underlying s=A d:=by
  cases hts:G.ty s with
  |no=>simp[hts,Nu]at hs
  |bool=>exact⟨_,ok.bool s hts⟩
  |int k=>exact⟨_,ok.int s k hts⟩
  |flt k=>exact⟨_,ok.flt s k hts⟩
  |str=>exact⟨_,ok.str s hts⟩
  |sl e=>exact⟨_,(ok.sl s e hts).1⟩
  |pt e=>exact⟨_,ok.pt s e hts⟩
  |fn=>obtain⟨a,b,c,hd⟩:=ok.fn s hts;exact⟨_,hd⟩
  |st fs=>obtain⟨a,hd,_⟩:=ok.strc s fs hts;exact⟨_,hd⟩
  |arr n e=>exact⟨_,(ok.arr s n e hts).1⟩
 obtain⟨d,hd⟩:=hsu;unfold Abq at h1;cases c with
 |sc v=>
  have hρ:=(DN hev hc).1;cases hty:G.ty t with
  |int k=>
   cases v with
   |int k' n=>simp[hty,J]at h1;subst h1;refine aA hr ?_ rfl;unfold execOp;rw[ho];simp[Go.convert,hρ,A_ hd w,A_ (ok.int t k hty) w,Conv.intToInt]
   |_=>simp[hty,I]at h1
  |str=>
   cases v with
   |string s'=>simp[hty,J]at h1;subst h1;refine aA hr ?_ rfl;unfold execOp;rw[ho];simp[Go.convert,hρ,A_ hd w,A_ (ok.str t hty) w]
   |_=>simp[hty,I]at h1
  |flt k=>
   cases v with
   |int k' n=>simp[hty,J]at h1;subst h1;refine aA hr ?_ rfl;unfold execOp;rw[ho];simp[Go.convert,hρ,A_ hd w,A_ (ok.flt t k hty) w,Conv.intToFloat,Bc4]
   |_=>simp[hty,I]at h1
  |_=>simp[hty,I]at h1
 |_=>simp[I]at h1
end
end Go.Ab
namespace Go.Ab
variable{G:Sig}
def Ax2{op:BinOp}{x y:Value}{R:Type}{k:Value->Option R}{r:R}(P:Program)(t:TypeId)(w:World)(h:bin op x y R k=A r) :
  ∃v,k v=A r/\IC v=N/\(binOp op t x y).run P w=.ok v w:=by
 cases x with
 |int a m=>
  cases y with
  |int b n=>
   have arith:∀(f:Int) ,(M.bind (M.need (Dd a b)) λ_=>J (Value.int a f)) R k=A r->(a=b->(binOp op t (.int a m) (.int b n)).run P w=.ok (.int a f) w)->∃v,k v=A r/\IC v=N/\(binOp op t (.int a m) (.int b n)).run P w=.ok v w:=by intro f hf hrun;obtain⟨he,h1⟩:=L hf;exact⟨_,h1,rfl,hrun (Fv he)⟩
   cases op with
   |add=>exact arith _ h λe=>by subst e;simp[binOp,Op.intArith]
   |sub=>exact arith _ h λe=>by subst e;simp[binOp,Op.intArith]
   |mul=>exact arith _ h λe=>by subst e;simp[binOp,Op.intArith]
   |quo=>
    simp only[bin,Rf]at h;obtain⟨he,h1⟩:=L h;obtain⟨hn,h2⟩:=L h1;have e:=Fv he;subst e;have hn':n≠0:=by simpa using hn
    exact⟨_,h2,rfl,by simp[binOp,Op.intDiv,hn']⟩
   |rem=>
    simp only[bin,Rf]at h;obtain⟨he,h1⟩:=L h;obtain⟨hn,h2⟩:=L h1;have e:=Fv he;subst e;have hn':n≠0:=by simpa using hn
    exact⟨_,h2,rfl,by simp[binOp,Op.intDiv,hn']⟩
   |shl=>
    simp only[bin,Rf]at h;obtain⟨he,h1⟩:=L h;obtain⟨q,hq,h2⟩:=V h1;simp[shI]at hq;subst hq;have hb:¬n<0:=by simpa using he
    exact⟨_,h2,rfl,by simp[binOp,Op.shift,hb]⟩
   |shr=>
    simp only[bin,Rf]at h;obtain⟨he,h1⟩:=L h;obtain⟨q,hq,h2⟩:=V h1;simp[shI]at hq;subst hq;have hb:¬n<0:=by simpa using he
    exact⟨_,h2,rfl,by simp[binOp,Op.shift,hb]⟩
   |and|or|xor|andNot=>simp only[bin,Rf]at h;obtain⟨he,h1⟩:=L h;obtain⟨q,hq,h2⟩:=V h1;simp[Atn,Um]at hq;subst hq;have e:=Fv he;subst e;exact⟨_,h2,rfl,by simp[binOp,Op.intBits]⟩
   |eql|neq|lss|leq|gtr|geq=>simp only[bin,Rf]at h;obtain⟨he,h1⟩:=L h;obtain⟨q,hq,h2⟩:=V h1;simp[ZO]at hq;subst hq;have e:=Fv he;subst e;exact⟨_,h2,rfl,by simp[binOp,Op.intCmp]⟩
  |_=>simp[bin,I]at h
 |float a m=>
  cases y with
  |float b n=>
   cases op with
   |add|sub|mul|quo=>simp only[bin,Afm]at h;obtain⟨he,h1⟩:=L h;obtain⟨q,hq,h2⟩:=V h1;have e:=Aih he;subst e;rw[Bjo]at hq;simp only[arG]at hq;exact⟨_,h2,rfl,by simp[binOp,Op.floatArith,hq]⟩
   |_=>simp only[bin,Afm]at h;obtain⟨he,h1⟩:=L h;obtain⟨q,hq,h2⟩:=V h1;have e:=Aih he;subst e;simp[Blc]at hq<;>subst hq<;>exact⟨_,h2,rfl,by simp[binOp,Op.floatCmp]⟩
  |_=>simp[bin,I]at h
 |string a=>
  cases y with
  |string b=>
   cases op with
   |add=>
    simp only[bin,Afn]at h;obtain⟨he,h1⟩:=L h;refine⟨_,h1,rfl,?_⟩
    have:¬(((a.size+b.size:Nat):Int)>IntKind.i64.max):=by
     have h2:=F_ he
     have:IntKind.i64.max=9223372036854775807:=rfl
     rw[this];omega
    simp only[binOp,Op.stringOp,if_neg this];rfl
   |eql|neq|lss|leq|gtr|geq=>exact⟨_,h,rfl,by simp[binOp,Op.stringOp,eqB,ltB]⟩
   |_=>simp[bin,Afn,I]at h
  |_=>simp[bin,I]at h
 |_=>simp[bin,I]at h
def Arv{P:Program}{t:TypeId}(hu:P.underlying t=A .bool)(a b:Bool)(w:World):(Op.equal t (.bool a) (.bool b)).run P w=.ok (a==b) w:=by
 have key:∀d:Nat,(Op.equalIn (d+1) t (.bool a) (.bool b)).run P w=.ok (a==b) w:=λd=>by simp[Op.equalIn,A_ hu]
 exact key 9999
section
variable{P:Program}{ν:Nat->Option Value}{S B:Nat->Prop}{h:Nat->Option (W G.T)}{w:World}{ρ:Operand->Value}{o:Oper}
variable(ok:SigOK P G)(eqok:EqOK P G){ev:Operand->Option (Sv G.T)}(hev:∀x s,ev x=A s->Rs G ν S w.heap s (ρ x))(hr:HRel G ν S B h w)(hB:∀b,w.heap.size<=b->B b)
 {cf:BW G}{nm:Nat}{out:O G}(hfresh:∀n∈out.nw,ν n=C)
include hev hr
theorem Bg3{op:UnOp}{t:Nat}{x:Operand}(ho:o.op=.unOp op t x)(hact:aUn ev op x (O G) A=A out):Z P G ρ o ν S B h w out:=by
 unfold aUn at hact;obtain⟨c,hc,h1⟩:=aB hact;unfold unP at h1;cases c with
 |sc v=>
  have hρ:=(DN hev hc).1;cases op<;>cases v<;>simp[I]at h1
  .simp[J]at h1;subst h1;refine aA hr ?_ rfl;unfold execOp;rw[ho];simp[hρ,Op.unary,Op.intArith]
  .obtain⟨q,hq,h2⟩:=V h1;simp[Atn,Um]at hq;subst hq;simp[J]at h2;subst h2;refine aA hr ?_ rfl;unfold execOp;rw[ho];simp[hρ,Op.unary,Op.intBits]
  .simp[J]at h1;subst h1;refine aA hr ?_ rfl;unfold execOp;rw[ho];simp[hρ,Op.unary]
 |_=>cases op<;>simp[I]at h1
include ok eqok
theorem Bbz{op:BinOp}{t t':Nat}{x y:Operand}(ho:o.op=.binOp op t x y t')(hact:ZC ev op t x y (O G) A=A out):Z P G ρ o ν S B h w out:=by
 unfold ZC at hact;obtain⟨a,ha,h1⟩:=SC hact;obtain⟨b,hb,h2⟩:=SC h1;unfold Bby at h2;cases a with
 |one c=>
  cases b with
  |one d=>
   simp only[Bbw]at h2;cases hnd:Au1 d with
   |true=>
    rw[hnd]at h2;obtain⟨q,hq,h4⟩:=V h2;have hd:d=.sc (.pointer C):=by
     unfold Au1 at hnd;split at hnd
     .rfl
     .cases hnd
    subst hd;have hu:=DN hev hb;have hc:=FF hev ha;have hp:∃e p,G.ty t=.pt e/\ρ x=.pointer p/\p.isNone=q:=by
     unfold Bk6 at hq;split at hq
     .rename_i e n off hty;obtain⟨b',_,hv⟩:=hc;cases hq;exact⟨e,_,hty,hv,rfl⟩
     .rename_i e hty;cases hq;exact⟨e,C,hty,(DN hev ha).1,rfl⟩
     .cases hq
    obtain⟨e,p,hty,hv,hpq⟩:=hp;have hpt:P.underlying t=A (.pointer (P.pointee t)):=by have h:=ok.pt t e hty;unfold Program.pointee;rw[h]
    have hg:(eqGuard op t x y (.pointer p) (.pointer C)).run P w=.ok () w:=by
     unfold eqGuard;cases op<;>simp
     all_goals rfl
    unfold Bbx at h4;cases op with
    |eql=>simp[J]at h4;subst h4;subst hpq;refine aA hr ?_ rfl;unfold execOp;rw[ho];simp[hv,hu.1,hg,run_eql_pointer_nil w t p hpt]
    |neq=>simp[J]at h4;subst h4;subst hpq;refine aA hr ?_ rfl;unfold execOp;rw[ho];simp[hv,hu.1,hg,run_neq_pointer_nil w t p hpt]
    |_=>simp[I]at h4
   |false=>
   rw[hnd,c_]at h2;cases c with
   |sc v=>
    cases d with
    |sc u=>
     simp only at h2;have hv:=DN hev ha;have hu:=DN hev hb;have hnv:v≠ .nilIface:=by rintro rfl;unfold Amu at h2;generalize G.ty t=y at h2;cases y<;>simp[bin,M.bind,I]at h2
     have hg:(eqGuard op t x y v u).run P w=.ok () w:=by
      unfold eqGuard;cases op<;>simp
      all_goals cases v<;>simp[IC]at hv<;>(try exact absurd rfl hnv)<;>(try(cases u<;>simp[IC]at hu))<;>rfl
     have fin:∀r,out=outV r->IC r=N->(binOp op t v u).run P w=.ok r w->Z P G ρ o ν S B h w out:=by rintro r rfl hr' hrun;refine aA hr ?_ hr';unfold execOp;rw[ho];simp[hv.1,hu.1,hg,hrun]
     have gen:(M.bind (bin op v u) λr=>J (outV r)) (O G) A=A out->Z P G ρ o ν S B h w out:=by intro hh;obtain⟨r,h3,h4,h5⟩:=Ax2 P t w (aC hh);simp[J]at h3;exact fin r h3.symm h4 h5
     by_cases hbb:∃a' b',G.ty t=.bool/\v=.bool a'/\u=.bool b'
     .obtain⟨a',b',hty,rfl,rfl⟩:=hbb;have hub:=ok.bool t hty;simp only[Amu,hty]at h2;cases op<;>simp[I]at h2
      .simp[J]at h2;exact fin _ h2.symm rfl (by simp only[binOp];simp[Arv hub])
      .simp[J]at h2;exact fin _ h2.symm rfl (by simp only[binOp];simp[Arv hub])
     .refine gen ?_;unfold Amu at h2;generalize hty:G.ty t=y at h2;cases y with
      |bool=>
       cases v<;>try exact h2
       cases u<;>try exact h2
       exact absurd ⟨_,_,hty,rfl,rfl⟩ hbb
      |_=>exact h2
    |_=>simp[I]at h2
   |_=>cases d<;>simp[I]at h2
  |agg ds=>simp[I]at h2
 |agg cs=>
  cases b with
  |one d=>simp[I]at h2
  |agg ds=>
   simp only at h2;obtain⟨hagg0,h3⟩:=L h2;obtain⟨q,hq,h4⟩:=V h3;simp only[e_,Bj4]at hagg0;obtain⟨hagg,⟨hty,hk1⟩,hk2⟩:=hagg0;have hra:=Ug hev ha;have hrb:=Ug hev hb;generalize hu:ρ x=u at hra;generalize hu':ρ y=u' at hrb;cases hra with
   |agg _ vs hvs=>
   cases hrb with
   |agg _ us hus=>
   have key:∀(cs ds:List (Cv G.T)) (vs us:List Value) (q:Bool),F2 (Rc G ν S w.heap) cs vs->F2 (Rc G ν S w.heap) ds us->Fu cs ds=A q->Lg vs us=A q:=by
    intro cs;induction cs with
    |nil=>
     intro ds vs us q h1 h2 h3;cases ds with
     |nil=>simp[Fu]at h3;rw[h1.inv_nil,h2.inv_nil,h3];rfl
     |cons d ds=>simp[Fu]at h3
    |cons c cs ih=>
     intro ds vs us q h1 h2 h3;cases ds with
     |nil=>cases c<;>simp[Fu]at h3
     |cons d ds=>
      obtain⟨v,vs',rfl,hv,hvs⟩:=h1.inv;obtain⟨u,us',rfl,hu,hus⟩:=h2.inv;cases c with
      |sc v0=>
       cases d with
       |sc u0=>
        have ev:v=v0:=by have hv':Rd G S w.heap (.sc v0) v:=hv;cases hv';rfl
        have eu:u=u0:=by have hu':Rd G S w.heap (.sc u0) u:=hu;cases hu';rfl
        subst ev;subst eu;simp only[Fu]at h3;split at h3
        .rename_i x' y' hx hy
         have:=ih ds vs' us' y' hvs hus hy
         simp at h3;simp[Lg,hx,this,h3]
        .simp at h3
       |_=>simp[Fu]at h3
      |_=>simp[Fu]at h3
   have hEq:=key cs ds vs us q hvs hus hq;have kin:∀(cs:List (Cv G.T)) (vs:List Value) (ks:List Nat),F2 (Rc G ν S w.heap) cs vs->GK (Cp Agf cs) ks=N->(∀k∈ks,k≠0)->Cp Bd vs=ks:=by
    intro cs;induction cs with
    |nil=>intro vs ks h1 h2 _;rw[h1.inv_nil];cases ks<;>simp[Cp,GK]at h2|-
    |cons c cs ih=>
     intro vs ks h1 h2 h3;obtain⟨v,vs',rfl,hv,hvs⟩:=h1.inv;cases ks with
     |nil=>simp[Cp,GK]at h2
     |cons k ks=>
      simp only[Cp,GK,e_]at h2|-;have hk:Agf c=k:=AA.1 h2.1;have hne:=h3 k σ;cases c with
      |sc v0=>
       have ev:v=v0:=by have hv':Rd G S w.heap (.sc v0) v:=hv;cases hv';rfl
       subst ev;rw[ih vs' ks hvs h2.2 λk' hk'=>h3 k' (by simp[hk'])];have hk:Bd v=k:=hk;rw[hk]
      |_=>exact absurd hk.symm hne
   have hz:∀k∈zk G t,k≠0:=by
    have all:∀(cs ds:List (Cv G.T)) (q:Bool) (ks:List Nat),Fu cs ds=A q->GK (Cp Agf cs) ks=N->∀k∈ks,k≠0:=by
     intro cs;induction cs with
     |nil=>intro ds q ks _ h2 k hk;cases ks<;>simp[Cp,GK]at h2 hk
     |cons c cs ih=>
      intro ds q ks h1 h2 k hk;cases ks with
      |nil=>simp at hk
      |cons k0 ks=>
       simp only[Cp,GK,e_]at h2;cases ds with
       |nil=>cases c<;>simp[Fu]at h1
       |cons d ds=>
        cases c with
        |sc v0=>
         cases d with
         |sc u0=>
          simp only[Fu]at h1;split at h1
          .rename_i x' y' hx hy;rcases v_.1 hk with rfl|hk
           .have h0:Bd v0=k:=AA.1 h2.1;intro hk0;rw[hk0]at h0;cases v0 with
            |float k' n=>cases k'<;>simp[Bd]at h0
            |int k' n=>cases k'<;>simp[Bd]at h0
            |bool b=>simp[Bd]at h0
            |string b=>simp[Bd]at h0
            |_=>simp[eqV]at hx
           .exact ih ds y' ks hy h2.2 k hk
          .simp at h1
         |_=>simp[Fu]at h1
        |_=>simp[Fu]at h1
    exact all cs ds q _ hq hk1
   have hrun:=eqok.eq t vs us q w hagg hty (kin cs vs _ hvs hk1 hz) (kin ds us _ hus hk2 hz) hEq;have hg:(eqGuard op t x y (.agg vs.toArray) (.agg us.toArray)).run P w=.ok () w:=by unfold eqGuard;cases op<;>simp[eqok.guard t hagg]
   cases op with
   |eql=>simp[J]at h4;subst h4;refine aA hr (v:=.bool q) ?_ rfl;unfold execOp;rw[ho];simp[hu,hu',hg,binOp,hrun]
   |neq=>simp[J]at h4;subst h4;refine aA hr (v:=.bool (!q)) ?_ rfl;unfold execOp;rw[ho];simp[hu,hu',hg,binOp,hrun]
   |_=>simp[I]at h4
end
end Go.Ab
namespace Go.Ab
variable{G:Sig}
variable{q:Cv G.T×List Nat}{fz:List Nat}{v:Value}
def ND:∀(l:List Nat) (h:Nat->Option (W G.T)) (n:Nat),AW h (LQ l) n=if n∈l then C else h n
 |[],h,n=>by simp[LQ,AW]
 |m::t,h,n=>by
  simp only[LQ,AW,ND t];by_cases h1:n∈t
  .simp[h1]
  .by_cases h2:n=m
   .simp[h2]
   .simp[h1,h2,e0_ h2]
def Aab(h:Rl v=N):v=.slice C 0 0:=by
 unfold Rl at h;split at h
 .rfl
 .simp at h
def Xr{t t':Nat}{l:List (G.T t)}{l':List (G.T t')}(h:Pb G t t' l=A l'):∃e:t=t',e▸l=l':=by
 unfold Pb at h;split at h
 .rename_i e;simp at h;exact⟨e,h⟩
 .simp at h
def Adx(h:Nat->Option (W G.T)):∀(d e:List (Nat×Option (W G.T))),AW h (d++e)=AW (AW h d) e
 |[],_=>rfl
 |p::d,e=>by obtain⟨n,ob⟩:=p;exact Adx _ d e
section
variable{ν:Nat->Option Value}{S B:Nat->Prop}{h:Nat->Option (W G.T)}{w:World}
def TU(ν:Nat->Option Value)(S:Nat->Prop)(h:Nat->Option (W G.T))(fz:List Nat)(b:Nat):Prop:=S b\/∃n∈fz,h n≠C/\∃y,ν n=A y/\AC y=A b
def HRel.frz(hr:HRel G ν S B h w)(fz:List Nat):HRel G ν (TU ν S h fz) B (AW h (LQ fz)) w:=by
 have hsub:∀n,AW h (LQ fz) n≠C->n∉fz/\h n≠C:=by
  intro n hn;rw[ND]at hn;by_cases e:n∈fz
  .simp[e]at hn
  .rw[if_neg e]at hn;exact⟨e,hn⟩
 refine⟨λn k hk=>?_,λn m x y b hn hm=>hr.apart n m x y b (hsub n hn).2 (hsub m hm).2,λn x b hn hx hb=>⟨?_,(hr.own n x b (hsub n hn).2 hx hb).2⟩,λb hb=>?_,hr.gl.mono (λ_ h=>.inl h) λ_ _=>rfl⟩
 .have hn:=hsub n (by rw[hk];simp);rw[ND,if_neg hn.1]at hk;exact(hr.blk n k hk).mono ⟨λ_ _ h=>h,λ_ h=>.inl h,λ_ _=>rfl⟩ λ_ _ _ _=>rfl
 .rintro(hS|⟨m,hm,hm2,y,hy,hyb⟩)
  .exact(hr.own n x b (hsub n hn).2 hx hb).1 hS
  .have:=hr.apart n m x y b (hsub n hn).2 hm2 hx hy hb hyb
   subst this;exact(hsub n hn).1 hm
 .rcases hb with hS|⟨m,_,hm2,y,hy,hyb⟩
  .exact hr.stay b hS
  .exact hr.lt hm2 hy hyb
def Bcm(hr:HRel G ν S B h w){b:Nat}(hb:TU ν S h fz b):S b\/B b:=by
 rcases hb with hS|⟨m,_,hm2,y,hy,hyb⟩
 .exact .inl hS
 .exact .inr (hr.own m y b hm2 hy hyb).2
def Post.frz{out out1:O G}{hp':Nat->Option (W G.T)}{ν':Nat->Option Value}{S':Nat->Prop}{w':World}(hr:HRel G ν S B h w)(hv:out.v=out1.v)(hn:out.nw=out1.nw)
  (p:Post G ν (TU ν S h fz) B (AW h (LQ fz)) w out1 hp' ν' S' w' v):Post G ν S B h w out hp' ν' S' w' v:=by
 refine⟨p.nu,by rw[hn];exact p.new,λb hb=>p.st b (.inl hb),λb hb=>?_,p.rel,by rw[hv];exact p.val,p.size,λb hb hf=>p.frame b hb λn x hn hx=>hf n x ?_ hx,p.env⟩
 .rcases p.stn b hb with h1|h1
  .exact Bcm hr h1
  .exact .inr h1
 .rw[ND]at hn;by_cases e:n∈fz
  .simp[e]at hn
  .rwa [if_neg e]at hn
def Ayq(hr:HRel G ν S B h w){want c:Cv G.T}(hq:Ail h want c=A q)(hfz:∀n∈q.2,n∈fz)(hc:Rc G ν S w.heap c v):Rc G ν (TU ν S h fz) w.heap q.1 v:=by
 have hm:∀{c:Cv G.T},Rc G ν S w.heap c v->Rc G ν (TU ν S h fz) w.heap c v:=λr=>r.mono ⟨λ_ _ h=>h,λ_ h=>.inl h,λ_ _=>rfl⟩;unfold Ail at hq;split at hq
 .rename_i e l0 n;split at hq
  .rename_i t l hn;split at hq
   .rename_i l' hl;obtain⟨rfl,rfl⟩:=Xr hl;simp at hq;subst hq;obtain⟨av,len,cap,hν,rfl⟩:=hc;rcases hr.blk n _ hn with⟨h1,h2⟩|⟨b,cap',c,te,h1,h2,h3,h4,h5⟩
    .rw[hν]at h1;simp at h1;obtain⟨rfl,rfl,rfl⟩:=h1;subst h2;exact Rd.nil _ _ _
    .rw[hν]at h1;simp at h1;obtain⟨rfl,rfl,rfl⟩:=h1;have hSb:TU ν S h fz b:=.inr ⟨n,hfz n σ,by rw[hn];simp,_,hν,rfl⟩;show Rd G (TU ν S h fz) w.heap (.ro t l) _;refine .ro t l b 0 cap c te (0,0) (λi j=>c.getD (i*G.sz t+j) undef) hSb h2 (.inl h5.2.1) h3 (λi j hi hj=>?_) (λi j x cv hx hcv=>?_)
     .have hm:(i+1)*G.sz t<=cap*G.sz t:=B_ _ ω;rw[a0_]at hm;have hlt:i*G.sz t+j<c.size:=ω;rw[k_];simp[hlt]
     .obtain⟨v,hv,hrd⟩:=h5.1 i j x cv hx hcv
      have:c.getD (i*G.sz t+j) undef=v:=by rw[r_,hv];rfl
      rw[this];exact hrd.mono (λ_ h=>.inl h) λ_ _=>rfl
   .simp at hq
  .simp at hq
 .rename_i e l0 u;simp at hq;subst hq;cases hk:Rl u with
  |false=>exact hm hc
  |true=>
   have hu:=Aab hk;subst hu;have hv:v=.slice C 0 0:=by have hc:Rd G S w.heap (.sc (.slice C 0 0)) v:=hc;cases hc;rfl
   subst hv;exact Rd.nil _ _ _
 .simp at hq;subst hq;exact hm hc
def ZX(hr:HRel G ν S B h w):∀{ws cs:List (Cv G.T)}{q:List (Cv G.T)×List Nat},Pg h ws cs=A q->∀{fz:List Nat},(∀n∈q.2,n∈fz)->∀{vs:List Value},F2 (Rc G ν S w.heap) cs vs->F2 (Rc G ν (TU ν S h fz) w.heap) q.1 vs
 |[],[],q,hq,_,_,vs,hc=>by simp[Pg]at hq;subst hq;rw[hc.inv_nil];exact .nil
 |w0::ws,c::cs,q,hq,fz,hfz,vs,hc=>by
  unfold Pg at hq;split at hq
  .rename_i a b ha hb;simp at hq;subst hq;obtain⟨y,t,rfl,h1,h2⟩:=hc.inv;exact .cons (Ayq hr ha (λn hn=>hfz n (by simp[hn])) h1) (ZX hr hb (λn hn=>hfz n (by simp[hn])) h2)
  .simp at hq
 |[],_::_,_,hq,_,_,_,_=>by simp[Pg]at hq
 |_::_,[],_,hq,_,_,_,_=>by simp[Pg]at hq
end
def Bcl{h h':Nat->Option (W G.T)}{want c:Cv G.T}(hq:Ail h want c=A q)(hh:∀n∈q.2,h' n=h n):Ail h' want c=A q:=by
 unfold Ail at hq|-;split at hq
 .rename_i e l0 n;split at hq
  .rename_i t l hn;split at hq
   .rename_i l' hl;simp at hq;subst hq;rw[hh n σ,hn];simp only[hl]
   .simp at hq
  .simp at hq
 .exact hq
 .exact hq
def Aec{h h':Nat->Option (W G.T)}:∀{ws cs:List (Cv G.T)}{q:List (Cv G.T)×List Nat},Pg h ws cs=A q->(∀n∈q.2,h' n=h n)->Pg h' ws cs=A q
 |[],[],q,hq,_=>by simpa[Pg]using hq
 |w0::ws,c::cs,q,hq,hh=>by
  unfold Pg at hq|-;split at hq
  .rename_i a b ha hb;simp at hq;subst hq;rw[Bcl ha λn hn=>hh n (by simp[hn]),Aec hb λn hn=>hh n (by simp[hn])]
  .simp at hq
 |[],_::_,_,hq,_=>by simp[Pg]at hq
 |_::_,[],_,hq,_=>by simp[Pg]at hq
end Go.Ab
namespace Go.Ab
variable{G:Sig}
variable{parts:Array (Nat×Operand)}{t e:Nat}{hh:Array Obj}{z:Value}
def Ajs(off:Nat):∀(vs:List Value) (k:Nat) (cs:Array Value),off+k+vs.length<=cs.size->
  ((vs.zipIdx k).foldl (λ(cs:Array Value) p=>cs.setIfInBounds (off+p.2) p.1) cs).size=cs.size/\
  ∀j,((vs.zipIdx k).foldl (λ(cs:Array Value) p=>cs.setIfInBounds (off+p.2) p.1) cs)[j]?=if off+k<=j/\j<off+k+vs.length then vs[j-(off+k)]? else cs[j]?
 |[],k,cs,_=>by simp;intro j h1 h2;omega
 |v::vs,k,cs,h=>by
  simp only[N_]at h;obtain⟨h1,h2⟩:=Ajs off vs (k+1) (cs.setIfInBounds (off+k) v) (by simp;omega);simp only[List.zipIdx_cons,List.foldl_cons,N_];refine⟨by rw[h1];simp,λj=>?_⟩;rw[h2 j];simp only[e3_];by_cases hj:off+k=j
  .subst hj;rw[if_neg ω,if_pos rfl,if_pos ω,if_pos ω];simp
  .by_cases hr:off+(k+1)<=j/\j<off+(k+1)+vs.length
   .rw[if_pos hr,if_pos ω,show j-(off+k)=(j-(off+(k+1)))+1 by omega];simp
   .rw[if_neg hr,if_neg hj,if_neg ω]
def SK{R:Cv G.T->Value->Prop}{place:Nat->Option (Nat×Nat)}:∀(ps:List (Nat×Pv G.T)) (qs:List (Nat×Value)) (cells:List (Cv G.T)) (cs:Array Value) (cells':List (Cv G.T)),
  F2 R cells cs.toList->F2 (λp q=>p.1=q.1/\F2 R p.2.cells q.2.cells.toList) ps qs->XI place cells ps=A cells'->
  ∃cs',Instr.fill place cs qs=A cs'/\F2 R cells' cs'.toList
 |[],qs,cells,cs,cells',hc,hp,h=>by simp[XI]at h;subst h;rw[hp.inv_nil];exact⟨cs,rfl,hc⟩
 |(i,v)::ps,qs,cells,cs,cells',hc,hp,h=>by
  obtain⟨⟨j,u⟩,qs',rfl,⟨rfl,hvu⟩,hp'⟩:=hp.inv;simp only[XI]at h;split at h
  .rename_i off size hpl;rw[Bf]at h;by_cases hs:v.cells.length=size
   .rw[if_pos hs]at h;split at h
    .rename_i cells1 hsp;obtain⟨s1,s2,s3⟩:=HM _ _ _ _ hsp;have hl:=hc.1;have hl':=hvu.1;simp only[Array.length_toList]at hl hl';have hF:=Ajs off u.cells.toList 0 cs (by simp;omega);have hnext:F2 R cells1 ((u.cells.toList.zipIdx).foldl (λ(cs:Array Value) p=>cs.setIfInBounds (off+p.2) p.1) cs).toList:=by
      refine⟨(by rw[s1,hl];exact hF.1.symm),λq x y hx hy=>?_⟩;rw[s3 q]at hx;rw[Array.getElem?_toList,hF.2 q]at hy;by_cases hq:off<=q/\q<off+v.cells.length
      .rw[if_pos hq]at hx;rw[if_pos (by simp;omega)]at hy;exact hvu.2 _ x y hx (by simpa using hy)
      .rw[if_neg hq]at hx;rw[if_neg (by simp;omega)]at hy;exact hc.2 q x y hx (by simpa using hy)
     obtain⟨cs',h1,h2⟩:=SK ps qs' cells1 _ cells' hnext hp' h;refine⟨cs',?_,h2⟩;simp only[Instr.fill,hpl];rw[if_neg (by simp;omega)];rw[<-h1];congr 1;rw[<-Array.foldl_toList];simp
    .simp at h
   .rw[if_neg hs]at h;simp at h
  .simp at h
def Aa4{P:Program}(ok:SigOK P G){e:Nat}:∀(n:Nat) (cs:List (Cv G.T)) (l:List (G.T e)),BF G e n cs=A l->
  l.length=n/\cs.length=n*G.sz e/\∀(i j:Nat) x,l[i]?=A x->j<(G.enc e x).length->(G.enc e x)[j]?=cs[i*G.sz e+j]?
 |0,[],l,h=>by simp[BF]at h;subst h;simp
 |0,_::_,l,h=>by simp[BF]at h
 |n+1,cs,l,h=>by
  simp only[BF]at h;split at h
  .rename_i a b ha hb;split at h
   .rename_i x l' hx hl;simp at h;subst h;obtain⟨t1,t2,t3⟩:=Yl _ _ _ ha;obtain⟨d1,d2⟩:=Xy _ _ _ hb;obtain⟨r1,r2,r3⟩:=Aa4 ok n b l' hl;have he:=ok.encdec _ _ _ hx;refine⟨by simp[r1],by rw[a0_];omega,λi j y hy hj=>?_⟩;cases i with
    |zero=>simp at hy;subst hy;rw[he]at hj|-;rw[t3 j ω];simp
    |succ i=>simp at hy;rw[r3 i j y hy hj,d2];congr 1;rw[a0_];omega
   .simp at h
  .simp at h
section
variable{P:Program}{ν:Nat->Option Value}{S B:Nat->Prop}{h:Nat->Option (W G.T)}{w:World}{ρ:Operand->Value}{o:Oper}
variable(ok:SigOK P G){ev:Operand->Option (Sv G.T)}(hev:∀x s,ev x=A s->Rs G ν S w.heap s (ρ x))(hr:HRel G ν S B h w)(hB:∀b,w.heap.size<=b->B b)
 {cf:BW G}{nm:Nat}{out:O G}(hfresh:∀n∈out.nw,ν n=C)
include hev
theorem Aap{l:List (Nat×Operand)}{ys:List (Nat×Pv G.T)}(hF:F2 (λx y=>x.1=y.1/\ev x.2=A (.p y.2)) l ys) :
  F2 (λ(p:Nat×Pv G.T) (q:Nat×Value)=>p.1=q.1/\F2 (Rc G ν S w.heap) p.2.cells q.2.cells.toList) ys (l.map λp=>(p.1,ρ p.2)):=by
 refine⟨by simp[hF.1],λi y q hy hq=>?_⟩;rw[b7_]at hq;cases hx:l[i]? with
 |none=>simp[hx]at hq
 |some x=>simp[hx]at hq;subst hq;obtain⟨h1,h2⟩:=hF.2 i x y hx hy;exact⟨h1.symm,Uh (Ug hev h2)⟩
omit hev in
include ok in
theorem Akw(hz:z.cells.toList=G.zero t):F2 (Rc G ν S w.heap) (Er G t) z.cells.toList:=by rw[hz,Er];exact F2.map_left ⟨rfl,λi x y hx hy=>by rw[hx]at hy;simp at hy;subst hy;exact .sc _ (ok.zsc t x (p_ hx))⟩
include hr ok
theorem Atr(ho:o.op=.build t parts)(hact:QW ev t parts.toList (O G) A=A out):Z P G ρ o ν S B h w out:=by
 unfold QW at hact;cases ht:G.ty t with
 |st fs=>
  simp only[ht]at hact;obtain⟨ps,h1,hps⟩:=UW hact;obtain⟨cs,hcs,h2⟩:=V h1;simp[J]at h2;subst h2;obtain⟨fields,hu,hfs,hno⟩:=ok.strc t fs ht;obtain⟨z,hz,hzc⟩:=ok.zeroV w (show G.ty t≠ .no by rw[ht];simp);obtain⟨cs',hf,hF⟩:=SK ps _ (Er G t) z.cells cs (Akw ok hzc) (Aap hev hps) hcs;refine aE hr (v:=.agg cs'.toList.toArray) ?_ (.agg _ _ hF);have hpl:∀(l:List Field) (w:World),(∀f∈l,G.ty f.type≠ .no)->(l.mapM (λf=>(do pure (f.offset,<-sizeOf f.type):Sem (Nat×Nat)))).run P w=.ok (l.map λf=>(f.offset,G.sz f.type)) w:=by
   intro l;induction l with
   |nil=>intro w _;rfl
   |cons f l ih=>intro w hl;simp only[List.mapM_cons,z_,ok.sizeOf w (hl f σ),q_,a4_,ih w (λg hg=>hl g (by simp[hg])),d4_]
  have hall:∀f∈fields.toList,G.ty f.type≠ .no:=by intro f hf';refine hno f.offset f.type ?_;rw[<-hfs];exact b2_.2 ⟨f,hf',rfl⟩
  have hM:(fields.mapM (λf=>(do pure (f.offset,<-sizeOf f.type):Sem (Nat×Nat)))).run P w=.ok (fields.toList.map λf=>(f.offset,G.sz f.type)).toArray w:=by rw[Array.mapM_eq_mapM_toList];simp only[Sem.run_map,hpl _ w hall,q_]
  have hplace:(λi=>(fields.toList.map λf=>(f.offset,G.sz f.type)).toArray[i]?)=Agt G fs:=by funext i;rw[<-hfs];unfold Agt;rw[b7_];simp;cases fields[i]?<;>rfl
  unfold execOp;rw[ho];simp only[Instr.build,z_,hz,q_,A_ hu w,hM,hplace];have hf':Instr.fill (Agt G fs) z.cells (parts.map λ(i,x)=>(i,ρ x)).toList=A cs':=by rw[f2_];exact hf
  rw[hf'];simp
 |arr n e=>
  simp only[ht]at hact;obtain⟨ps,h1,hps⟩:=UW hact;obtain⟨cs,hcs,h2⟩:=V h1;simp[J]at h2;subst h2;obtain⟨hu,he⟩:=ok.arr t n e ht;obtain⟨z,hz,hzc⟩:=ok.zeroV w (show G.ty t≠ .no by rw[ht];simp);obtain⟨cs',hf,hF⟩:=SK ps _ (Er G t) z.cells cs (Akw ok hzc) (Aap hev hps) hcs;refine aE hr (v:=.agg cs'.toList.toArray) ?_ (.agg _ _ hF);unfold execOp;rw[ho];have hf':Instr.fill (λi=>A (i*G.sz e,G.sz e)) z.cells (parts.map λ(i,x)=>(i,ρ x)).toList=A cs':=by rw[f2_];exact hf
  simp only[Instr.build,z_,hz,q_,A_ hu w,ok.sizeOf w he];rw[hf'];simp
 |_=>simp[ht,I]at hact
omit hev hr
theorem Bgv{n:Nat}{cs:List (Cv G.T)}{l:List (G.T e)}(hl:BF G e n cs=A l){c:Array Value}(hF:F2 (Rc G ν S hh) cs c.toList):Bi7 G S hh e l c:=by intro i j x cv hx hcv;obtain⟨r1,r2,r3⟩:=Aa4 ok n cs l hl;have hj:j<(G.enc e x).length:=(g_.1 hcv).1;have h1:=r3 i j x hx hj;rw[hcv]at h1;obtain⟨v,hv,hrc⟩:=hF.get h1.symm;exact⟨v,by simpa using hv,Apc ok (p_ hcv) hrc⟩
theorem Ahw(hz:z.cells.toList=G.zero e)(hpos:0<G.sz e):∀n,F2 (Rc G ν S hh) (Pu G e n) (((aG (n*G.sz e)).map (z.cells[· %z.cells.size]!))).toList:=by
 have hsz:z.cells.size=G.sz e:=by rw[<-ok.zlen e,<-hz];simp
 have hlen:∀n,(Pu G e n).length=n*G.sz e:=by
  intro n;induction n with
  |zero=>simp[Pu]
  |succ n ih=>simp[Pu,ih,Er,ok.zlen e,a0_];omega
 have hget:∀n j,j<n*G.sz e->(Pu G e n)[j]?=(G.zero e)[j%G.sz e]?.map .sc:=by
  intro n;induction n with
  |zero=>intro j hj;omega
  |succ n ih=>
   intro j hj;rw[Pu,e7_];have hzl:(Er G e).length=G.sz e:=by simp[Er,ok.zlen e]
   by_cases hjs:j<G.sz e
   .rw[if_pos ω,Nat.mod_eq_of_lt hjs];simp[Er]
   .have hsm:=Nat.succ_mul n (G.sz e);have hj':j-G.sz e<n*G.sz e:=by rw[Nat.succ_eq_add_one]at hsm;omega
    rw[if_neg ω,hzl,ih (j-G.sz e) hj'];rw[Nat.mod_eq_sub_mod (a:=j) ω]
 intro n;refine⟨by simp[hlen n],λj x y hx hy=>?_⟩;have hj:j<n*G.sz e:=by have:=(g_.1 hx).1;rw[hlen]at this;exact this
 rw[hget n j hj]at hx;have hm:j%G.sz e<G.sz e:=Nat.mod_lt _ hpos;have hzz:(G.zero e)[j%G.sz e]?=A z.cells[j%z.cells.size]!:=by rw[<-hz,hsz];simp[hsz,hm]
 rw[hzz]at hx;simp at hx;subst hx;simp[hj]at hy;subst hy;exact .sc _ (ok.zsc e _ (p_ hzz))
include hev hr hB hfresh
theorem Afq{len:Nat}(ho:o.op=.buildSlice t len parts)(hact:Dk ev h nm t len parts.toList (O G) A=A out):Z P G ρ o ν S B h w out:=by
 unfold Dk at hact;cases ht:G.ty t with
 |sl e=>
  simp only[ht]at hact;obtain⟨ps,h1,hps⟩:=UW hact;obtain⟨hlen,h2⟩:=L h1;obtain⟨cs,hcs,h3⟩:=V h2;obtain⟨hu,he,⟨i,hi,hib⟩,_⟩:=ok.sl t e ht;obtain⟨z,hz,hzc⟩:=ok.zeroV w he;have hpos:=ok.pos _ he;obtain⟨cs',hf,hF0⟩:=SK ps _ (Pu G e len) _ cs (Ahw ok hzc hpos len) (Aap hev hps) hcs;simp only[e_]at hlen;have hsz:len*G.sz e<=16777216:=F_ hlen.2;have hle:len<=65536:=F_ hlen.1;have hexec:(execOp ρ o).run P w=.ok (.value (.slice (A ⟨w.heap.size,0,C⟩) len len)) { w with heap:=w.heap.push (.cells cs' e) }:=by
   unfold execOp;rw[ho];simp only[Instr.buildSlice,z_,A_ hu w,q_,ok.sizeOf w he];rw[if_neg (ω:¬(len*G.sz e>2^24))];have hf':Instr.fill (λi=>A (i*G.sz e,G.sz e)) ((aG (len*G.sz e)).map (z.cells[· %z.cells.size]!)) (parts.map λ(i,x)=>(i,ρ x)).toList=A cs':=by rw[f2_];exact hf
   by_cases h0:len*G.sz e=0
   .have he0:(aG (len*G.sz e)).map ((#[]:Array Value)[· %(#[]:Array Value).size]!)=(aG (len*G.sz e)).map (z.cells[· %z.cells.size]!):=by simp[h0]
    rw[if_pos h0];simp only[z_,a4_,q_];rw[he0,hf'];simp[newRow]
   .rw[if_neg h0];simp only[z_,hz,a4_,q_];rw[hf'];simp[newRow]
  unfold WT at h3;cases hfn:Aaa (G.ty e)with
  |true=>
  rw[hfn]at h3;obtain⟨hnp,h4⟩:=L h3;simp[J]at h4;subst h4;have hν:=hfresh nm σ;refine⟨.value (.slice (A ⟨w.heap.size,0,C⟩) len len),{ w with heap:=w.heap.push (.cells cs' e) },_,ext ν nm (.pointer (A ⟨w.heap.size,0,C⟩)),S,hexec,.inl rfl,?_⟩;refine Post.alloc (k:=.cells cs) (c:=cs') (te:=e) (w':={ w with heap:=w.heap.push (.cells cs' e) }) hr hB hν rfl rfl rfl rfl ⟨rfl,rfl,rfl⟩ ⟨w.heap.size,cs',e,CJ,σ,?_,λm t' hm=>(Aal hnp hm).elim⟩ λs hs=>?_
  .exact hF0.mono λ_ _=>Rc.mono (Aip _ hr hν)
  .simp at hs;subst hs;exact .p _ _ (.one _ _ ⟨w.heap.size,CJ,rfl⟩)
  |false=>
  rw[hfn]at h3;obtain⟨q,hq,h3⟩:=V h3;obtain⟨l,hl,h4⟩:=V h3;simp[J]at h4;subst h4;have hr1:=hr.frz q.2;have hF:=ZX hr hq (λ_ h=>h) hF0;obtain⟨r1,r2,r3⟩:=Aa4 ok len q.1 l hl;have hcs':cs'.size=len*G.sz e:=by have:=hF.1;simp at this;omega
  have hν:=hfresh nm σ;refine⟨.value (.slice (A ⟨w.heap.size,0,C⟩) len len),{ w with heap:=w.heap.push (.cells cs' e) },_,ext ν nm (.slice (A ⟨w.heap.size,0,C⟩) len len),TU ν S h q.2,hexec,.inl rfl,?_⟩
  .have hx:ext ν nm (.slice (A ⟨w.heap.size,0,C⟩) len len) nm=A (.slice (A ⟨w.heap.size,0,C⟩) l.length len):=by rw[CJ,r1]
   rw[Adx];refine Post.frz (fz:=q.2) (out1:=⟨A (.p (.one (.own nm))),[(nm,A (.row e l))],[nm],q.2⟩) hr rfl rfl (Post.alloc (k:=.row e l) (c:=cs') (te:=e) (w':={ w with heap:=w.heap.push (.cells cs' e) }) (out:=⟨A (.p (.one (.own nm))),[(nm,A (.row e l))],[nm],q.2⟩) hr1 hB hν rfl rfl rfl rfl ⟨rfl,rfl,rfl⟩
    (.inr ⟨w.heap.size,len,cs',e,hx,σ,ω,hcs',?_,rfl,by unfold maxLen;omega⟩) λs hs=>?_)
   .exact Bgv ok (ν:=ext ν nm (.slice (A ⟨w.heap.size,0,C⟩) len len)) hl (hF.mono λ_ _=>Rc.mono (Aip _ hr1 hν))
   .simp at hs;subst hs;exact .p _ _ (.one _ _ ⟨_,_,_,CJ,rfl⟩)
 |_=>simp[ht,I]at hact
theorem Ais{x y:Operand}(ho:o.op=.makeSlice t x y)(hact:Hx ev nm t x y (O G) A=A out):Z P G ρ o ν S B h w out:=by
 unfold Hx at hact;cases ht:G.ty t with
 |sl e=>
  simp only[ht]at hact;obtain⟨kn,n,hn,h1⟩:=Ag hact;obtain⟨km,m,hm,h2⟩:=Ag h1;obtain⟨hb,h3⟩:=L h2;obtain⟨z,hz,h4⟩:=V h3;simp[J]at h4;subst h4;obtain⟨hu,he,⟨i,hi,hib⟩,_⟩:=ok.sl t e ht;obtain⟨i',zv,hi',his,hiz,hzc⟩:=ok.info e he;rw[hi]at hi';simp at hi';subst hi';have hpos:=ok.pos _ he;simp[Aoc]at hb;obtain⟨⟨hb0,hb1⟩,hb2'⟩:=hb;have hb2:m<=2147483648:=o_ hb2';have hρn:=(DN hev hn).1;have hρm:=(DN hev hm).1;have hbytes:(i.bytes:Int)*m<=281474976710656:=by have h1:(i.bytes:Int)*m<=4096*m:=Int.mul_le_mul_of_nonneg_right ω ω;omega
  have hrun:=run_make (P:=P) w t e i zv hu hi hiz kn km n m hb0 hb1 hbytes ω;have hν:=hfresh nm σ;rw[his]at hrun;refine⟨.value (.slice (A ⟨w.heap.size,0,C⟩) n.toNat m.toNat),w.alloc (.cells (madeCells zv.cells (m.toNat*G.sz e)) e),_,ext ν nm (.slice (A ⟨w.heap.size,0,C⟩) n.toNat m.toNat),S,?_,.inl rfl,?_⟩
  .unfold execOp;rw[ho];simp[hρn,hρm,hrun]
  .have hx:ext ν nm (.slice (A ⟨w.heap.size,0,C⟩) n.toNat m.toNat) nm=A (.slice (A ⟨w.heap.size,0,C⟩) (List.replicate n.toNat z).length m.toNat):=by rw[CJ];simp
   refine Post.alloc (k:=.row e (List.replicate n.toNat z)) (c:=madeCells zv.cells (m.toNat*G.sz e)) (te:=e) (w':=w.alloc (.cells (madeCells zv.cells (m.toNat*G.sz e)) e)) hr hB hν rfl rfl rfl rfl ⟨rfl,rfl,rfl⟩
    (.inr ⟨w.heap.size,m.toNat,madeCells zv.cells (m.toNat*G.sz e),e,hx,σ,by simp;omega,by simp[madeCells],?_,rfl,by unfold maxLen;omega⟩) λs hs=>?_
   .have hzr:=Ahw ok (ν:=ν) (S:=S) (hh:=w.heap.push (.cells (madeCells zv.cells (m.toNat*G.sz e)) e)) hzc hpos m.toNat;intro q j x cv hx' hcv;have hq:q<n.toNat:=by have:=(g_.1 hx').1;simpa using this
    simp[hq]at hx';subst hx';rw[ok.encdec _ _ _ hz]at hcv;have hj:j<G.sz e:=by have:=(g_.1 hcv).1;simpa[Er,ok.zlen e]using this
    have hsz:zv.cells.size=G.sz e:=by rw[<-ok.zlen e,<-hzc];simp
    simp[Er]at hcv;obtain⟨v0,hv0,rfl⟩:=hcv;refine⟨v0,?_,.sc _ (ok.zsc e _ (p_ hv0))⟩;have hlt:q*G.sz e+j<m.toNat*G.sz e:=by
     have:(q+1)*G.sz e<=m.toNat*G.sz e:=B_ _ ω
     rw[a0_]at this;omega
    have hmod:(q*G.sz e+j)%G.sz e=j:=by rw[e9_,Nat.mul_add_mod,Nat.mod_eq_of_lt hj]
    rw[<-hzc]at hv0;simp[madeCells,hlt,hsz,hmod];simp[hsz,hj]at hv0;simp[hv0,hsz,hj]
   .simp at hs;subst hs;exact .p _ _ (.one _ _ ⟨_,_,_,CJ,rfl⟩)
 |_=>simp[ht,I]at hact
end
section
variable{P:Program}{ν:Nat->Option Value}{S B:Nat->Prop}{h:Nat->Option (W G.T)}{w:World}{ρ:Operand->Value}{o:Oper}
variable(ok:SigOK P G){ev:Operand->Option (Sv G.T)}(hev:∀x s,ev x=A s->Rs G ν S w.heap s (ρ x))(hr:HRel G ν S B h w){out:O G}
include ok hev hr
theorem Awb{x y:Operand}(ho:o.op=.store t x y)(hact:Lc ev h t x y (O G) A=A out):Z P G ρ o ν S B h w out:=by
 unfold Lc at hact;obtain⟨c,hc,hact⟩:=aB hact;obtain⟨x',hx',hact⟩:=SC hact;obtain⟨hsz,hact⟩:=L hact;have old:Rt h c x'.cells (O G) A=A out->Z P G ρ o ν S B h w out:=Are ok hev hr ho hc hx' hsz;cases c with
 |pr m tt i off=>
  unfold Abb at hact;obtain⟨q,hq,hact⟩:=V hact;obtain⟨hnb,hact⟩:=L hact;obtain⟨⟨n,k'⟩,hp,hact⟩:=V hact;simp[J]at hact;subst hact;have hnm:m∉q.2:=λhm=>by rw[(Fw q.2 m).2 hm]at hnb;simp at hnb
  have hr1:=hr.frz q.2;have hnew:=ZX hr hq (λ_ h=>h) (Uh (Ug hev hx'));have hp1:ID (AW h (LQ q.2)) q.1 (.pr m tt i off)=A (n,k'):=by rw[<-hp];simp only[ID];rw[ND,if_neg hnm]
  have hrc:Rc G ν (TU ν S h q.2) w.heap (.pr m tt i off) (ρ x):=FF hev hc;obtain⟨b,off',w',xx,hv,hrun,hn,hνn,hb,⟨c',te,hw⟩,hrel⟩:=Agw ok hr1 hrc hnew hp1;have hsize:(ρ y).cells.size=G.sz t:=by
   have:=(Uh (Ug hev hx')).1
   simp at hsz;rw[hsz.1]at this;simpa using this.symm
  have hno:G.ty t≠ .no:=by intro e;simp[e,Nu]at hsz
  refine⟨.skip,w',undef,ν,TU ν S h q.2,?_,.inr ⟨rfl,rfl⟩,?_⟩
  .unfold execOp;rw[ho];simp only[Instr.storeAt,hv,Instr.sureAddr,storeVar,z_,a4_,q_,ok.sizeOf w hno,hsize];simp[hrun]
  .rw[Adx];exact Post.frz (fz:=q.2) (out1:=⟨C,[(n,A k')],[],[]⟩) hr rfl rfl ⟨λ_ _ h=>h,λ_ h=>.inl h,λ_ h=>h,λ_ h=>.inl h,hrel,λs hs=>by simp at hs,by rw[hw.size];exact H_ _,
    λb' hb' hnot=>hw.there b' (λe=>hnot n xx hn hνn (e▸hb)),hw.env⟩
 |_=>exact old hact
end
end Go.Ab
namespace Go.Ab
variable{G:Sig}
variable{xs:Array Operand}{b:Builtin}{x:Operand}{t:Nat}{i:TypeInfo}{v:Value}
def Af6:∀(ns:List Int) (s:ByteArray),ns.foldl (λr n=>r.push (UInt8.ofNat n.toNat)) s=⟨s.data++(ns.map λn=>UInt8.ofNat n.toNat).toArray⟩
 |[],s=>by simp
 |n::ns,s=>by rw[List.foldl_cons,Af6 ns];apply ByteArray.ext;simp[ByteArray.push]
def Blj{P:Program}{e:Nat}(ok:SigOK P G)(hg:Aeq ((G.enc e (G.dfl e)).map u8C)=N)(x:G.T e):∃n,G.enc e x=[.sc (.int .u8 n)]:=by
 rw[ok.u8d e (G.dfl e) x]at hg;generalize G.enc e x=cs at hg
 match cs,hg with
 |[c],hg=>
  simp only[d4_,List.map_nil]at hg;cases c with
  |sc v=>
   cases v with
   |int k n=>cases k<;>first|exact⟨_,rfl⟩|simp[Aeq,u8C]at hg
   |_=>simp[Aeq,u8C]at hg
  |_=>simp[Aeq,u8C]at hg
 |[],hg=>simp[Aeq]at hg
 |_::_::_,hg=>simp[Aeq]at hg
section
variable{P:Program}{ν:Nat->Option Value}{S B:Nat->Prop}{h:Nat->Option (W G.T)}{w:World}{ρ:Operand->Value}{o:Oper}
variable(ok:SigOK P G){ev:Operand->Option (Sv G.T)}(hev:∀x s,ev x=A s->Rs G ν S w.heap s (ρ x))(hr:HRel G ν S B h w)(hB:∀b,w.heap.size<=b->B b)
 {cf:BW G}{nm:Nat}{out:O G}(hfresh:∀n∈out.nw,ν n=C)
theorem SG{t':Nat}{l:List (G.T t)}{l':List (G.T t')}(hc:Pb G t t' l=A l'):∃e:t=t',l'=e▸l:=by
 unfold Pb at hc;split at hc
 .rename_i e;simp at hc;exact⟨e,hc.symm⟩
 .simp at hc
include ok hr in
theorem Mw{e:Nat}(ht:G.ty t=.sl e){c:Cv G.T}{l:List (G.T e)}(hl:GA h e c=A l)(hv:Rc G ν S w.heap c v):
  ∃a cap,v=.slice a l.length cap/\(a=C->l=[])/\∃vs:List Value,vs.length=l.length*G.sz e/\(∀a',a=A a'->∀(j:Nat) u,vs[j]?=A u->w.cell? (a'.add j)=A u)/\
   (∀u∈vs,u.oneCell'=N)/\∀(i j:Nat) x cv,l[i]?=A x->(G.enc e x)[j]?=A cv->∃u,vs[i*G.sz e+j]?=A u/\Rd G S w.heap cv u:=by
 have hel:=(ok.sl t e ht).2.2.2;have hpos:=ok.pos _ (ok.sl t e ht).2.1;unfold GA at hl;split at hl
 .simp at hl;subst hl;have hv':Rd G S w.heap (.sc (.slice C 0 0)) v:=hv;cases hv';exact⟨C,0,rfl,λ_=>rfl,[],σ,σ,σ,σ⟩
 .rename_i n;split at hl
  .rename_i t' l0 hn;obtain⟨rfl,rfl⟩:=SG hl;obtain⟨a,len,cap,hν,rfl⟩:=hv;rcases hr.blk n _ hn with⟨h1,h2⟩|⟨b,cap',c,te,h1,h2,h3,h4,h5⟩
   .rw[hν]at h1;simp at h1;obtain⟨rfl,rfl,rfl⟩:=h1;subst h2;exact⟨C,0,rfl,λ_=>rfl,[],σ,σ,σ,σ⟩
   .rw[hν]at h1;simp at h1;obtain⟨rfl,rfl,rfl⟩:=h1;have hmul:l.length*G.sz t'<=cap*G.sz t':=B_ _ h3;refine⟨_,cap,rfl,σ,c.toList.take (l.length*G.sz t'),by simp;omega,?_,?_,?_⟩
    .rintro a' ha j u hu;simp at ha;subst ha;have hj:j<l.length*G.sz t':=by have:=(g_.1 hu).1;simp at this;omega
     rw[t_ hj]at hu;rw[FK,k_,d5_ w b j c te (0,0) h2];simpa using hu
    .intro u hu;obtain⟨j,hj,e⟩:=List.getElem_of_mem hu;have hj':j<l.length*G.sz t':=by simp at hj;omega
     have hi:j/G.sz t'<l.length:=Nat.div_lt_of_lt_mul (by rw[e9_];exact hj');have hm:j%G.sz t'<(G.enc t' l[j/G.sz t']).length:=by rw[hel];exact Nat.mod_lt _ hpos
     obtain⟨u',hu',hrd⟩:=h5.1 (j/G.sz t') (j%G.sz t') _ _ (j_ hi) (j_ hm);rw[e9_,Nat.div_add_mod]at hu'
     have:u=u':=by
      have h6:(c.toList.take (l.length*G.sz t'))[j]?=A u:=by rw[<-e];exact j_ hj
      rw[t_ hj']at h6;simp at h6;rw[h6]at hu';simpa using hu'
     rw[this];exact WS hrd
    .intro i j x cv hx hcv;obtain⟨u,hu,hrd⟩:=h5.1 i j x cv hx hcv;have hi:i<l.length:=(g_.1 hx).1;have hj:j<G.sz t':=by have:=(g_.1 hcv).1;rw[hel]at this;exact this
     have:(i+1)*G.sz t'<=l.length*G.sz t':=B_ _ ω
     rw[a0_]at this;exact⟨u,by rw[t_ ω];simpa using hu,hrd⟩
  .simp at hl
 .rename_i t' l0;obtain⟨rfl,rfl⟩:=SG hl;have hv':Rd G S w.heap (.ro t' l) v:=hv;cases hv' with
  |nil _ a cap=>exact⟨a,cap,rfl,λ_=>rfl,[],σ,σ,σ,σ⟩
  |ro _ _ b off cap c te fz vs hS hb _ hcap hcell hrd=>
   have hjlt:∀j,j<l.length*G.sz t'->j/G.sz t'<l.length:=λj hj=>Nat.div_lt_of_lt_mul (by rw[e9_];exact hj);refine⟨_,cap,rfl,σ,(List.range (l.length*G.sz t')).map λj=>vs (j/G.sz t') (j%G.sz t'),σ,?_,?_,?_⟩
   .rintro a' ha j u hu;simp at ha;subst ha;have hj:j<l.length*G.sz t':=by have:=(g_.1 hu).1;simpa using this
    simp[hj]at hu;subst hu;rw[FK,d5_ w b (off+j) c te fz hb];rw[<-hcell (j/G.sz t') (j%G.sz t') (hjlt j hj) (Nat.mod_lt _ hpos)];congr 1
    have:=Nat.div_add_mod j (G.sz t')
    rw[e9_]at this;omega
   .intro u hu;simp at hu;obtain⟨j,hj,rfl⟩:=hu;have hi:=hjlt j hj;have hm:j%G.sz t'<(G.enc t' l[j/G.sz t']).length:=by rw[hel];exact Nat.mod_lt _ hpos
    exact WS (hrd _ _ _ _ (j_ hi) (j_ hm))
   .intro i j x cv hx hcv;have hi:i<l.length:=(g_.1 hx).1;have hj:j<G.sz t':=by have:=(g_.1 hcv).1;rw[hel]at this;exact this
    have h6:(i+1)*G.sz t'<=l.length*G.sz t':=B_ _ ω;rw[a0_]at h6;have hd:(i*G.sz t'+j)/G.sz t'=i:=by rw[e9_,Nat.mul_add_div hpos,Nat.div_eq_of_lt hj,b6_]
    have hmo:(i*G.sz t'+j)%G.sz t'=j:=by rw[e9_,Nat.mul_add_mod,Nat.mod_eq_of_lt hj]
    have hlt:i*G.sz t'+j<l.length*G.sz t':=ω;exact⟨vs i j,by simp[hlt,hd,hmo],hrd i j x cv hx hcv⟩
 .simp at hl
def An4{T:Nat->Type}:List (Cv T)->Int
 |[.sc (.int _ n)]=>n
 |_=>0
theorem Dl{tys:Array TypeId}(ho:o.op=.call ⟨.builtin b,xs,tys⟩){s:Sem Value}{w':World}
  (hs:∀cs,builtin b tys o.type cs (xs.map ρ)=(do pure (.value (<-s)))) (hrun:s.run P w=.ok v w'):(execOp ρ o).run P w=.ok (.value v) w':=by
 unfold execOp;rw[ho];simp only[resolve,invoke,z_,a4_,q_,hs,hrun]
omit hev hr ok in
theorem Aji{dT ty elem:TypeId}{w:World}{b off dl dc sl sc:Nat}{a:Option Addr}{c:Array Value}{te:TypeId}{news:List Value}
  (hu:P.underlying dT=A (.slice elem)) (hs:P.info? elem=A i) (hb:w.heap[b]?=A (.cells c te (0,0)))
  (hn:news.length=X sl dl*i.size) (hsrc:∀a',a=A a'->∀(j:Nat) v,news[j]?=A v->w.cell? (a'.add j)=A v) (hnil:a=C->news=[]) (hfit:off+news.length<=c.size) (h1:∀v∈news,v.oneCell'=N) :
  ∃w' c',(Builtin.copy_ #[dT,dT] ty #[.slice (A ⟨b,off,C⟩) dl dc,.slice a sl sc]).run P w=.ok (goInt (X sl dl)) w'/\Wrote w w' b c' te/\c'.size=c.size/\
   ∀j,c'[j]?=if off<=j/\j<off+news.length then news[j-off]? else c[j]?:=by
 obtain⟨w',c',hst,hw,hcs,hc⟩:=IG (P:=P) (off:=off) news 0 w c hb (by simpa using hfit) h1;refine⟨w',c',?_,hw,hcs,by simpa using hc⟩;have hl:(Builtin.firstCells i.size (X sl dl) (.slice a sl sc)).run P w=.ok news.toArray w:=by
  cases a with
  |none=>rw[hnil rfl];simp[Builtin.firstCells]
  |some a'=>
   have:=run_loadCells_list (P:=P) w a' news (hsrc a' rfl)
   rw[hn]at this;simpa[Builtin.firstCells]using this
 simp[Builtin.copy_,A_ hu,Builtin.lenOf,sizeOf,typeInfo,hs,hl,hst]
include hev hr ok
theorem Ayc{y:Operand}{tys:Array TypeId}(ho:o.op=.call ⟨.builtin .copy,xs,tys⟩)(htys:tys.toList=[t,t])(hxs:xs.toList=[x,y])
  (hact:Az ev h nm .copy tys.toList xs.toList (O G) A=A out):Z P G ρ o ν S B h w out:=by
 rw[htys,hxs]at hact;have hxs':xs=#[x,y]:=by rw[<-d6_ (xs:=xs),hxs]
 have htys':tys=#[t,t]:=by rw[<-d6_ (xs:=tys),htys]
 have hact:QA ev h t t x y (O G) A=A out:=hact;unfold QA at hact;cases ht:G.ty t with
 |sl e=>
  simp only[ht]at hact;obtain⟨_,h1⟩:=L hact;obtain⟨c,hc,h2⟩:=aB h1;obtain⟨c',hc',h3⟩:=aB h2;obtain⟨l',hl',h4⟩:=V h3;obtain⟨hu,he,⟨i,hi,_⟩,hel⟩:=ok.sl t e ht;have hsz:i.size=G.sz e:=by obtain⟨i',z,g1,g2,_⟩:=ok.info e he;rw[hi]at g1;cases g1;exact g2
  have hpos:=ok.pos _ he;obtain⟨a,cap,hv,hnil,vs,hvl,hvc,hvo,hvr⟩:=Mw ok hr ht hl' (FF hev hc');have hmin:∀n m:Nat,Aly n m=((X n m:Nat):Int):=by
   intro n m;unfold Aly;cases hb:Nat.ble n m with
   |true=>rw[d_,show X n m=n from c8_ (F_ hb)]
   |false=>
    have:m<=n:=by
     rcases Nat.lt_or_ge m n with h|h
     .omega
     .rw[Nat.ble_eq_true_of_le h]at hb;cases hb
    rw[c_,show X n m=m from Nat.min_eq_right this]
  unfold Abr at h4;cases c with
  |own m=>
   simp only at h4;cases hm:h m with
   |none=>simp[hm,I]at h4
   |some blk=>
    cases blk with
    |cells cs=>simp[hm,I]at h4
    |row u l=>
     simp only[hm]at h4;obtain⟨hg,h5⟩:=L h4;obtain⟨l'',hl'',h6⟩:=V h5;simp[J]at h6;subst h6;simp only[e_]at hg;obtain rfl:u=e:=AA.1 hg.1;have hql:l'=l'':=by obtain⟨_,e⟩:=SG hl'';exact e.symm
     subst hql;obtain⟨av,lenv,capv,hνm,_⟩:=FF hev hc;have hmn:h m≠C:=by rw[hm];simp
     rcases hr.blk m _ hm with⟨g1,g2⟩|⟨b,cap',cc,te,g1,g2,g3,g4,g5,g6,g7⟩
     .have hρ:=D_ (hνm.symm.trans g1);subst g2;have hrun:(Builtin.copy_ tys o.type (xs.map ρ)).run P w=.ok (goInt (X l'.length 0)) w:=by
       have hl:(Builtin.firstCells i.size 0 (.slice a l'.length cap)).run P w=.ok #[] w:=by
        cases a with
        |none=>simp[Builtin.firstCells]
        |some a'=>
         have:=run_loadCells_list (P:=P) w a' [] σ
         simpa[Builtin.firstCells]using this
       simp[Builtin.copy_,hxs',htys',A_ hu,Builtin.lenOf,sizeOf,typeInfo,hi,hρ,hv,hl]
      refine⟨.value (goInt (X l'.length 0)),w,_,ν,S,Dl ho (λ_=>rfl) hrun,.inl rfl,⟨λ_ _ h=>h,λ_ h=>.inl h,λ_ h=>h,λ_ h=>.inl h,?_,λs hs=>?_,H_ _,λ_ _ _=>rfl,rfl,rfl,rfl⟩⟩
      .have:AW h [(m,A (Blk.row u (LM ([]:List (G.T u)) l')))]=h:=by
        funext q;simp only[AW,LM];by_cases hq:q=m
        .subst hq;simp[hm]
        .simp[e0_ hq]
       simp only[this];exact hr
      .simp at hs;subst hs;rw[hmin];exact .p _ _ (.one _ _ (.sc _ rfl))
     .have hρ:=D_ (hνm.symm.trans g1);rw[hρ]at hνm;subst g6;have hk:X l'.length l.length*G.sz te<=cap'*G.sz te:=B_ _ (d8_ (Nat.min_le_right _ _) g3);have hk2:X l'.length l.length*G.sz te<=l'.length*G.sz te:=B_ _ (aH _ _);have hnl:(vs.take (X l'.length l.length*G.sz te)).length=X l'.length l.length*G.sz te:=by rw[w_];omega
      obtain⟨w',c2,hrun,hw,hcs,hcc⟩:=Aji (P:=P) (dT:=t) (ty:=o.type) (dl:=l.length) (dc:=cap') (sl:=l'.length) (sc:=cap) (a:=a) (news:=vs.take (X l'.length l.length*G.sz te)) hu hi g2 (off:=0)
       (by rw[hnl,hsz]) (λa' ha j v hj=>hvc a' ha j v (by
        have:=(g_.1 hj).1
        rw[w_]at this;rw[t_ ω]at hj;exact hj)) (λha=>by
        have:l'=[]:=hnil ha
        apply P_;rw[hnl,this];show X 0 l.length*G.sz te=0;rw[show X 0 l.length=0 from Nat.zero_min _,Nat.zero_mul]) (by rw[hnl];omega) (λv hv=>hvo v (e5_ hv))
      have hx:AC (Value.slice (A (⟨b,0,C⟩:Addr)) l.length cap')=A b:=rfl;have hS:¬S b:=(hr.own m _ b hmn hνm hx).1;have le:Le ν ν S S w.heap w'.heap:=⟨λ_ _ h=>h,λ_ h=>h,λb' hb'=>hw.there b' (λe=>hS (e▸hb'))⟩
      have hlen:(LM l l').length=l.length:=by unfold LM;rw[h_,w_,X_];omega
      have hrel:=hr.wrote hmn hνm hx hw (k':=.row te (LM l l')) (.inr ⟨b,cap',c2,te,by rw[hνm,hlen],hw.here,by rw[hlen];exact g3,by rw[hcs,g4],λi' j x' cv hx' hcv=>?_,rfl,g7⟩)
      .refine⟨.value (goInt (X l'.length l.length)),w',_,ν,S,Dl ho (λ_=>rfl) (by rw[hxs',htys'];simpa[hρ,hv]using hrun),.inl rfl,⟨λ_ _ h=>h,λ_ h=>.inl h,λ_ h=>h,λ_ h=>.inl h,?_,λs hs=>?_,by rw[hw.size];exact H_ _,λb' hb' hnot=>hw.there b' (λe=>hnot m _ hmn hνm (e▸hx)),hw.env⟩⟩
       .have:AW h [(m,A (Blk.row te (LM l l')))]=λq=>if m=q then A (Blk.row te (LM l l'))else h q:=by
         funext q;simp only[AW]
        rw[this];exact hrel
       .simp at hs;subst hs;rw[hmin];exact .p _ _ (.one _ _ (.sc _ rfl))
      .have hj:j<G.sz te:=by have:=(g_.1 hcv).1;rw[hel]at this;exact this
       rw[hcc,hnl];unfold LM at hx';by_cases hi':i'<X l'.length l.length
       .have hm1:i'<l'.length:=c5_ hi' (aH _ _);have hm2:i'<l.length:=c5_ hi' (Nat.min_le_right _ _);rw[c0_ (by rw[w_];omega),t_ hm2]at hx';obtain⟨u,hu',hrd⟩:=hvr i' j x' cv hx' hcv;have hlt:i'*G.sz te+j<X l'.length l.length*G.sz te:=by
         have:(i'+1)*G.sz te<=X l'.length l.length*G.sz te:=B_ _ hi'
         rw[a0_]at this;omega
        exact⟨u,by rw[if_pos ⟨G_ _,ω⟩,Nat.sub_zero,t_ hlt];exact hu',hrd.mono le.st le.hp⟩
       .have hge:X l'.length l.length<=i':=Nat.le_of_not_lt hi';have hx2:l[i']?=A x':=by
         rcases Nat.le_total l.length l'.length with hle|hle
         .have hi3:i'<(l'.take l.length++l.drop l'.length).length:=(g_.1 hx').1;rw[h_,w_,X_]at hi3
          have:X l'.length l.length=l.length:=Nat.min_eq_right hle
          rw[this]at hge;omega
         .have:X l'.length l.length=l'.length:=c8_ hle
          rw[this]at hge;rw[b9_ (by rw[w_];omega),b8_,w_,Nat.min_eq_right hle,show l'.length+(i'-l'.length)=i' by omega]at hx';exact hx'
        obtain⟨u,hu',hrd⟩:=g5 i' j x' cv hx2 hcv;have hge2:X l'.length l.length*G.sz te<=i'*G.sz te:=B_ _ hge;exact⟨u,by rw[if_neg ω];exact hu',hrd.mono le.st le.hp⟩
  |sa m off len=>
   simp only at h4;cases hm:h m with
   |none=>simp[hm,I]at h4
   |some blk=>
    cases blk with
    |row u l=>simp[hm,I]at h4
    |cells cs=>
     simp only[hm]at h4;obtain⟨hg,h5⟩:=L h4;obtain⟨cs',hcs',h6⟩:=V h5;obtain⟨hnp,h7⟩:=L h6;simp[J]at h7;subst h7;simp only[e_]at hg;have hs1:G.sz e=1:=AA.1 hg.1;obtain⟨b,hνm,hρ⟩:=FF hev hc;have hmn:h m≠C:=by rw[hm];simp
     obtain⟨b2,cc,te,g1,g2,g3,g4⟩:=hr.blk m _ hm;rw[hνm]at g1;cases g1;unfold Bfd at hcs';split at hcs'
     .rename_i new hnew;rw[WY]at hnew;obtain⟨n1,n2⟩:=BU _ _ hnew;rw[List.length_range]at n1;obtain⟨s1,s2,s3⟩:=HM _ _ _ _ hcs';have hcl:cs.length=cc.size:=by have:=g3.1;simpa using this
      rw[hs1,c1_]at hvl;have hnl:(vs.take (X l'.length len)).length=X l'.length len:=by rw[w_,hvl];exact c8_ (aH _ _)
      have hle:X l'.length len<=len:=Nat.min_le_right _ _;obtain⟨w',c2,hrun,hw,hsz2,hcc⟩:=Aji (P:=P) (dT:=t) (ty:=o.type) (dl:=len) (dc:=len) (sl:=l'.length) (sc:=cap) (a:=a) (news:=vs.take (X l'.length len)) hu hi g2 (off:=off)
       (by rw[hnl,hsz,hs1,c1_]) (λa' ha j v hj=>hvc a' ha j v (by
        have:=(g_.1 hj).1
        rw[w_]at this;rw[t_ ω]at hj;exact hj)) (λha=>by
        have:l'=[]:=hnil ha
        apply P_;rw[hnl,this];exact Nat.zero_min _) (by rw[hnl];omega) (λv hv=>hvo v (e5_ hv))
      have hx:AC (Value.pointer (A (⟨b,0,C⟩:Addr)))=A b:=rfl;have hS:¬S b:=(hr.own m _ b hmn hνm hx).1;have le:Le ν ν S S w.heap w'.heap:=⟨λ_ _ h=>h,λ_ h=>h,λb' hb'=>hw.there b' (λe=>hS (e▸hb'))⟩
      have hrel:=hr.wrote hmn hνm hx hw (k':=.cells cs') ⟨b,c2,te,hνm,hw.here,⟨by rw[s1,hcl,<-hsz2];simp,λq x' y' hx' hy'=>?_⟩,λm' t' hm'=>(Aal hnp hm').elim⟩
      .refine⟨.value (goInt (X l'.length len)),w',_,ν,S,Dl ho (λ_=>rfl) (by rw[hxs',htys'];simpa[hρ,hv]using hrun),.inl rfl,⟨λ_ _ h=>h,λ_ h=>.inl h,λ_ h=>h,λ_ h=>.inl h,?_,λs hs=>?_,by rw[hw.size];exact H_ _,λb' hb' hnot=>hw.there b' (λe=>hnot m _ hmn hνm (e▸hx)),hw.env⟩⟩
       .have:AW h [(m,A (Blk.cells cs'))]=λq=>if m=q then A (Blk.cells cs')else h q:=by
         funext q;simp only[AW]
        rw[this];exact hrel
       .simp at hs;subst hs;rw[hmin];exact .p _ _ (.one _ _ (.sc _ rfl))
      .rw[s3]at hx';have hy2:c2[q]?=A y':=by simpa using hy'
       rw[hcc,hnl]at hy2;by_cases hin:off<=q/\q<off+new.length
       .rw[if_pos hin]at hx';obtain⟨z,hz,hf⟩:=n2 (q-off) (q-off) (by rw[aI ω]);rw[hz]at hx';cases hx';split at hf
        .rename_i o0 c0 ho0 hc0;rw[show off+(q-off)=q by omega]at ho0;have hit:=Agd hf;by_cases hlt:q-off<l'.length
         .rw[show aF (q-off) l'.length=N from Nat.ble_eq_true_of_le (Nat.succ_le_of_lt hlt),if_pos rfl]at hit;rw[if_pos ⟨hin.1,by have:q-off<X l'.length len:=Nat.lt_min.2 ⟨hlt,ω⟩;omega⟩]at hy2;have hmem:l'[q-off]?=A (l'.getD (q-off) (G.dfl e)):=by rw[n_,j_ hlt];rfl
          obtain⟨u,hu',hrd⟩:=hvr (q-off) 0 _ c0 hmem (by rw[hc0];rfl);rw[hs1,c1_,b6_]at hu';rw[t_ (Nat.lt_min.2 ⟨hlt,ω⟩),hu']at hy2;cases hy2;rw[hit];exact(Ai6 ok (t:=e) (x:=l'.getD (q-off) (G.dfl e)) (by rw[hc0];simp) (hrd.mono le.st le.hp))
         .rw[show aF (q-off) l'.length=false from by
           cases hbb:aF (q-off) l'.length with
           |false=>rfl
           |true=>exact absurd (F_ hbb) hlt,if_neg σ]at hit
          have:X l'.length len<=l'.length:=aH _ _
          rw[if_neg ω]at hy2;rw[hit];exact(g3.2 q o0 y' ho0 (by simpa using hy2)).mono le
        .cases hf
       .rw[if_neg hin]at hx';rw[if_neg ω]at hy2;exact(g3.2 q x' y' hx' (by simpa using hy2)).mono le
     .cases hcs'
  |_=>simp[I]at h4
 |_=>simp[ht,I]at hact
theorem Bcv{tys:Array TypeId}(ho:o.op=.call ⟨.builtin .len,xs,tys⟩)(htys:∃ts,tys.toList=t::ts)(hxs:xs.toList=[x])
  (hact:Az ev h nm .len tys.toList xs.toList (O G) A=A out):Z P G ρ o ν S B h w out:=by
 obtain⟨ts,hts⟩:=htys;rw[hts,hxs]at hact;have hxs':xs=#[x]:=by rw[<-d6_ (xs:=xs),hxs]
 have hty0:tys[0]?=A t:=by rw[<-Array.getElem?_toList,hts];rfl
 have go:∀n:Nat,(Builtin.len_ tys o.type (xs.map ρ)).run P w=.ok (goInt n) w->Z P G ρ o ν S B h w (outV (.int .i64 n)):=by intro n hn;exact aA hr (Dl ho (λ_=>rfl) hn) rfl
 cases ht:G.ty t with
 |str=>
  simp only[Az,VI,ht]at hact;obtain⟨c,hc,h1⟩:=aB hact;cases c with
  |sc v=>
   cases v with
   |string s=>simp[J]at h1;subst h1;refine go _ ?_;simp[Builtin.len_,hty0,hxs',A_ (ok.str t ht),(DN hev hc).1]
   |_=>simp[I]at h1
  |_=>simp[I]at h1
 |arr n e=>simp only[Az,VI,ht]at hact;simp[J]at hact;subst hact;refine go _ ?_;simp[Builtin.len_,hty0,hxs',A_ (ok.arr t n e ht).1]
 |sl e=>
  simp only[Az,VI,ht]at hact;obtain⟨c,hc,h1⟩:=aB hact;have old:M.bind (M.opt (GA h e c)) (λl=>J (⟨A (.p (.one (.sc (.int .i64 (l.length:Int))))),[],[],c.rds⟩:O G)) (O G) A=A out->Z P G ρ o ν S B h w out:=λh1=>by
   obtain⟨l,hl,h2⟩:=V h1;simp[J]at h2;subst h2;obtain⟨a,cap,hv,_⟩:=Mw ok hr ht hl (FF hev hc);refine Runs.value hr rfl (Dl ho (λ_=>rfl) (v:=goInt l.length) ?_) λs hs=>?_
   .simp[Builtin.len_,hty0,hxs',A_ (ok.sl t e ht).1,hv]
   .simp at hs;subst hs;exact .p _ _ (.one _ _ (.sc _ rfl))
  cases c with
  |sa n off len=>simp[Aod,J]at h1;subst h1;obtain⟨b,_,hv⟩:=FF hev hc;refine go _ ?_;simp[Builtin.len_,hty0,hxs',A_ (ok.sl t e ht).1,hv]
  |_=>exact old h1
 |_=>simp[Az,VI,ht,I]at hact
theorem Ayb{s:Nat}(ho:o.op=.convert s t x)(hact:OX ev h s t x (O G) A=A out):Z P G ρ o ν S B h w out:=by
 unfold OX at hact;obtain⟨hs,h0⟩:=L hact;obtain⟨c,hc,h1⟩:=aB h0;cases hts:G.ty s with
 |sl e=>
  rw[hts]at h1;simp only at h1;cases hst:Agc (G.ty t)with
  |false=>rw[hst]at h1;exact Afv ok hev hr ho hs hc h1
  |true=>
   rw[hst,d_]at h1;obtain⟨hg,h2⟩:=L h1;obtain⟨l,hl,h3⟩:=V h2;simp[J]at h3;subst h3;rw[e_]at hg;have hu8:P.underlying e=A (.int .u8):=by
    have:=hg.1
    unfold Bke at this;split at this
    .rename_i hty;exact ok.int e .u8 hty
    .simp at this
   have hty:P.underlying t=A .string:=by
    unfold Agc at hst;split at hst
    .rename_i hty;exact ok.str t hty
    .simp at hst
   have henc:=Blj (G:=G) ok hg.2;have hsz:G.sz e=1:=by have h1:=(ok.sl s e hts).2.2.2 (G.dfl e);obtain⟨n,hn⟩:=henc (G.dfl e);rw[hn]at h1;simpa using h1.symm
   obtain⟨a,cap,hv,hnil,vs,hvl,hcell,_,hrel⟩:=Mw ok hr hts hl (FF hev hc);have hus:=(ok.sl s e hts).1;refine Runs.value hr rfl (v:=.string (Abe G e l)) ?_ λs hs=>?_
   .unfold execOp;rw[ho];simp only[hv,z_];cases a with
    |none=>obtain rfl:=hnil rfl;rw[run_convert_bytes_string w s t e C _ cap hus hu8 hty];simp[Conv.bytesToString,Abe];rfl
    |some a=>
     have hns:vs=(l.map λx=>An4 (G.enc e x)).map (Value.int .u8):=by
      apply List.ext_getElem?;intro i;rw[List.map_map,b7_];cases hi:l[i]? with
      |none=>rw[List.getElem?_eq_none_iff]at hi;simp only[aJ];rw[List.getElem?_eq_none_iff];rw[hvl,hsz];omega
      |some x=>obtain⟨n,hn⟩:=henc x;obtain⟨u,hu,hr'⟩:=hrel i 0 x _ hi (by rw[hn];rfl);rw[hsz,c1_,b6_]at hu;rw[hu];cases hr';simp[hn,An4]
     have hload:=run_loadCells_list (P:=P) w a vs (λj u hj=>hcell a rfl j u hj);rw[hvl,hsz,c1_,hns]at hload;rw[run_convert_bytes_string w s t e (A a) _ cap hus hu8 hty,run_bytesToString w a l.length cap (l.map λx=>An4 (G.enc e x)) hload,Af6];simp only[Abe,List.map_map];have e1:(λn:Int=>UInt8.ofNat n.toNat)∘(λx=>An4 (G.enc e x))=λx=>Abm (G.enc e x):=by funext x;obtain⟨n,hn⟩:=henc x;simp[hn,An4,Abm]
     rw[e1,show ByteArray.empty.data=(#[]:Array UInt8)from rfl,Array.empty_append];rfl
   .simp at hs;subst hs;exact .p _ _ (.one _ _ (.sc _ rfl))
 |_=>rw[hts]at h1;exact Afv ok hev hr ho hs hc h1
omit ok
theorem Ac9{y:Operand}{tys:Array TypeId}(hb:b=.min\/b=.max)(ho:o.op=.call ⟨.builtin b,xs,tys⟩)(hxs:xs.toList=[x,y])
  (hact:Az ev h nm b tys.toList xs.toList (O G) A=A out):Z P G ρ o ν S B h w out:=by
 rw[hxs]at hact;have hxs':xs=#[x,y]:=by rw[<-d6_ (xs:=xs),hxs]
 rcases hb with rfl|rfl
 .simp only[Az,Atk]at hact;obtain⟨k,m,hm,h1⟩:=Ag hact;obtain⟨k',n,hn,h2⟩:=Ag h1;obtain⟨he,h3⟩:=L h2;have e:=Fv he;simp at e;subst e;simp[J]at h3;subst h3;refine aA hr (Dl ho (λ_=>rfl) ?_) rfl;simp[Builtin.min_,hxs',(DN hev hm).1,(DN hev hn).1,Builtin.min2]
 .simp only[Az,Atj]at hact;obtain⟨k,m,hm,h1⟩:=Ag hact;obtain⟨k',n,hn,h2⟩:=Ag h1;obtain⟨he,h3⟩:=L h2;have e:=Fv he;simp at e;subst e;simp[J]at h3;subst h3;refine aA hr (Dl ho (λ_=>rfl) ?_) rfl;simp[Builtin.max_,hxs',(DN hev hm).1,(DN hev hn).1,Builtin.max2]
theorem Aai{y z:Operand}{tys:Array TypeId}(hb:b=.min\/b=.max)(ho:o.op=.call ⟨.builtin b,xs,tys⟩)(hxs:xs.toList=[x,y,z])
  (hact:Az ev h nm b tys.toList xs.toList (O G) A=A out):Z P G ρ o ν S B h w out:=by
 rw[hxs]at hact;have hxs':xs=#[x,y,z]:=by rw[<-d6_ (xs:=xs),hxs]
 rcases hb with rfl|rfl
 .simp only[Az,Alr]at hact;obtain⟨k,m,hm,h1⟩:=Ag hact;obtain⟨k',n,hn,h2⟩:=Ag h1;obtain⟨k2,p,hp,h2⟩:=Ag h2;obtain⟨he,h3⟩:=L h2;obtain⟨he2,h3⟩:=L h3;have e:=Fv he;have e2:=Fv he2;simp at e e2;subst e;subst e2;simp[J]at h3;subst h3;refine aA hr (Dl ho (λ_=>rfl) ?_) rfl;simp[Builtin.min_,hxs',(DN hev hm).1,(DN hev hn).1,(DN hev hp).1,Builtin.min2];by_cases g:n<m<;>simp[g]
 .simp only[Az,Alq]at hact;obtain⟨k,m,hm,h1⟩:=Ag hact;obtain⟨k',n,hn,h2⟩:=Ag h1;obtain⟨k2,p,hp,h2⟩:=Ag h2;obtain⟨he,h3⟩:=L h2;obtain⟨he2,h3⟩:=L h3;have e:=Fv he;have e2:=Fv he2;simp at e e2;subst e;subst e2;simp[J]at h3;subst h3;refine aA hr (Dl ho (λ_=>rfl) ?_) rfl;simp[Builtin.max_,hxs',(DN hev hm).1,(DN hev hn).1,(DN hev hp).1,Builtin.max2];by_cases g:m<n<;>simp[g]
omit hev hr
theorem Apw{t e:TypeId}(hu:P.underlying t=A (.slice e))(hi:P.info? e=A i)(ty:TypeId)(a:Option Addr)(n cap:Nat)(hcap:n<=cap)(b:Option Addr)(c:Nat):
  (Builtin.append_ #[t,t] ty #[.slice a n cap,.slice b 0 c]).run P w=.ok (.slice a n cap) w:=by
 cases b<;>cases a<;>simp[Builtin.append_,A_ hu,sizeOf,typeInfo,hi,Builtin.lenOf,hcap,Builtin.firstCells,loadCells,loadCellsFrom,storeCells]
def Abs(h:Nat->Option (W G.T))(n0:Option Nat)(m:Nat):Option (W G.T):=
 match n0 with
 |some n=>if n=m then C else h m
 |none=>h m
include hev hr hB hfresh ok
theorem Apx{y:Operand}{tys:Array TypeId}(ho:o.op=.call ⟨.builtin .append,xs,tys⟩)(htys:tys.toList=[t,t])(hxs:xs.toList=[x,y])
  (hact:Az ev h nm .append tys.toList xs.toList (O G) A=A out):Z P G ρ o ν S B h w out:=by
 rw[htys,hxs]at hact;have hxs':xs=#[x,y]:=by rw[<-d6_ (xs:=xs),hxs]
 have htys':tys=#[t,t]:=by rw[<-d6_ (xs:=tys),htys]
 cases ht:G.ty t with
 |sl e=>
  simp only[Az,Kd,ht]at hact;obtain⟨_,h0⟩:=L hact;obtain⟨c,hc,h1⟩:=aB h0;obtain⟨c',hc',h2⟩:=aB h1;obtain⟨l,hl,h3⟩:=V h2;obtain⟨l',hl',h4⟩:=V h3;obtain⟨hmax,h5⟩:=L h4;have hmax:l.length+l'.length<=2147483648:=F_ hmax;obtain⟨hu,he,⟨i,hi,hib⟩,hel⟩:=ok.sl t e ht;obtain⟨i',z,hi',his,hiz,hzc⟩:=ok.info e he;rw[hi]at hi';simp at hi';subst hi';have hpos:=ok.pos _ he;have hzs:z.cells.size=G.sz e:=by rw[<-ok.zlen e,<-hzc];simp
  obtain⟨a',cap',hv',hnone',vs',hvl',hvc',hv1',hvr'⟩:=Mw ok hr ht hl' (FF hev hc');have main:∀(D:List (Nat×Option (W G.T))) (n0:Option Nat) (rd:List Nat),out=⟨A (.p (.one (.own nm))),D++[(nm,A (.row e (l++l')))],[nm],rd⟩->
    (D=(match n0 with|some n=>[(n,C)]|none=>[]))->
    (∃(xs0:List Value),w.ownsRow 0 e (G.sz e) (ρ x) l.length xs0/\(∀(i j:Nat) y cv,l[i]?=A y->(G.enc e y)[j]?=A cv->∃u,xs0[i*G.sz e+j]?=A u/\Rd G S w.heap cv u))->
    (∀b,(ρ x).ownBlock=A b->∃n y,n0=A n/\h n≠C/\ν n=A y/\AC y=A b)->(∀n,n0=A n->n≠nm)->Z P G ρ o ν S B h w out:=by
   intro D n0 rd hout hD ⟨xs0,hown,hrow⟩ hblk hne;have hν:ν nm=C:=hfresh nm (by rw[hout];simp);have hbytes:(l.length+l'.length)*i.bytes<=140737488355328:=by
    have:(l.length+l'.length)*i.bytes<=2147483648*4096:=Nat.mul_le_mul hmax hib
    omega
   have hrun:∃v' w',(Builtin.append_ #[t,t] o.type #[ρ x,ρ y]).run P w=.ok v' w'/\w'.ownsRow 0 e (G.sz e) v' (l.length+l'.length) (xs0++vs')/\w.grownBy w' (ρ x).ownBlock/\
     (v'.ownBlock=(ρ x).ownBlock\/v'.ownBlock=A w.heap.size):=by
    cases a' with
    |some ad=>obtain⟨v',w',h1,h2,h3,_,h5⟩:=Go.run_append_own_at (P:=P) w 0 t o.type e i z (G.sz e) i.bytes hu hi hiz his rfl hzs hpos (ρ x) l.length xs0 hown ad l'.length cap' vs' hvl' (λj u hu=>hvc' ad rfl j u hu) hv1' (by unfold maxLen;omega) hbytes (G_ _);exact⟨v',w',by rw[hv'];exact h1,h2,h3,h5⟩
    |none=>
     have hz:=hnone' rfl;subst hz;simp at hvl';subst hvl';have hsl:∃a0 cap0,ρ x=.slice a0 l.length cap0/\l.length<=cap0:=by
      rcases hown.2 with⟨h1,h2⟩|⟨g,cap,cur,h1,_,_,h4,_⟩
      .exact⟨C,0,by rw[h1,h2],ω⟩
      .exact⟨_,cap,h1,h4⟩
     obtain⟨a0,cap0,hx0,hcap0⟩:=hsl;refine⟨ρ x,w,?_,by simpa using hown,⟨rfl,rfl,rfl,H_ _,λ_ _ _=>rfl⟩,.inl rfl⟩;rw[hx0,hv'];exact Apw hu hi _ a0 _ cap0 hcap0 C cap'
   obtain⟨v',w',hr1,hr2,hr3,hr4⟩:=hrun;have hkeep:∀b,b<w.heap.size->(∀y,(ρ x).ownBlock=A y->y≠b)->w'.heap[b]?=w.heap[b]?:=λb hb hn=>hr3.block b hb (λe=>hn b e.symm rfl);have hSkeep:∀b,S b->w'.heap[b]?=w.heap[b]?:=λb hb=>hkeep b (hr.stay b hb) λy hy e=>by obtain⟨n,y',_,hn,hy',hb'⟩:=hblk y hy;subst e;exact(hr.own n y' y hn hy' hb').1 hb
   have hrow':Rb G (ext ν nm v') S w'.heap nm (.row e (l++l')):=by
    have hcells:∀(i j:Nat) y cv,(l++l')[i]?=A y->(G.enc e y)[j]?=A cv->∃u,(xs0++vs')[i*G.sz e+j]?=A u/\Rd G S w'.heap cv u:=by
     intro i j y cv hy hcv;have hj:j<G.sz e:=by have:=(g_.1 hcv).1;rw[hel]at this;exact this
     rw[e7_]at hy;by_cases hi:i<l.length
     .rw[if_pos hi]at hy;obtain⟨u,hu,hrd⟩:=hrow i j y cv hy hcv;have h6:(i+1)*G.sz e<=l.length*G.sz e:=B_ _ ω;rw[a0_]at h6;exact⟨u,by rw[c0_ (by rw[hown.1];omega)];exact hu,hrd.mono (λ_ h=>h) hSkeep⟩
     .rw[if_neg hi]at hy;obtain⟨u,hu,hrd⟩:=hvr' (i-l.length) j y cv hy hcv;have h6:i*G.sz e=l.length*G.sz e+(i-l.length)*G.sz e:=by rw[<-a0_];congr 1;omega
      refine⟨u,?_,hrd.mono (λ_ h=>h) hSkeep⟩;rw[b9_ (by rw[hown.1];omega),hown.1,show i*G.sz e+j-l.length*G.sz e=(i-l.length)*G.sz e+j by omega];exact hu
    have hlen:(l++l').length=l.length+l'.length:=by simp
    rcases hr2.2 with⟨g1,g2⟩|⟨g,cap,cur,g1,_,g3,g4,g5,g6,g7⟩
    .refine .inl ⟨by rw[CJ,g1],P_ (by rw[hlen];exact g2)⟩
    .refine .inr ⟨g,cap,cur,e,by rw[CJ,g1,hlen],g3,by rw[hlen];exact g4,g6,λi j y cv hy hcv=>?_,rfl,g5⟩;obtain⟨u,hu,hrd⟩:=hcells i j y cv hy hcv;refine⟨u,?_,hrd⟩;rw[<-g7]at hu;have hlt:i*G.sz e+j<(l.length+l'.length)*G.sz e:=by
      have:=(g_.1 hu).1
      simp at this;omega
     rw[t_ hlt]at hu;simpa using hu
   generalize hh':Abs h n0=h';have hsub:∀m,h' m≠C->h' m=h m:=by
    intro m hm;subst hh';cases n0 with
    |none=>rfl
    |some n=>
     by_cases e:n=m
     .simp[Abs,e]at hm
     .simp[Abs,e]
   have hr':=hr.sub hsub;have hnotown:∀m y b,h' m≠C->ν m=A y->AC y=A b->(ρ x).ownBlock≠A b:=by
    intro m y b hm hy hb e;obtain⟨n,y',hn0,hn,hy',hb'⟩:=hblk b e
    have:=hr.apart m n y y' b (by rw[<-hsub m hm];exact hm) hn hy hy' hb hb'
    subst this;exact hm (by rw[<-hh'];simp[Abs,hn0])
   have hadd:=hr'.add (nm:=nm) (x:=v') (k:=.row e (l++l')) (w':=w') hν (λb hb hor=>hkeep b hb λy hy e=>by
     subst e;rcases hor with hS|⟨m,y',hm,hy',hb'⟩
     .obtain⟨n,y',_,hn,hy',hb'⟩:=hblk y hy;exact(hr.own n y' y hn hy' hb').1 hS
     .exact hnotown m y' y hm hy' hb' hy) hr3.size (λb hb=>by
     have hvb:v'.ownBlock=A b:=by
      rcases hr2.2 with⟨g1,_⟩|⟨g,cap,cur,g1,_⟩
      .rw[g1]at hb;simp[AC]at hb
      .rw[g1]at hb|-;simpa[AC,Value.ownBlock]using hb
     rcases hr4 with e|e
     .rw[hvb]at e;obtain⟨n,y,_,hn,hy,hb'⟩:=hblk b e.symm;obtain⟨q1,q2⟩:=hr.own n y b hn hy hb';exact⟨q1,q2,λm y' hm hy' hb''=>hnotown m y' b hm hy' hb'' e.symm⟩
     .rw[hvb]at e;simp at e;subst e;exact⟨λhS=>absurd (hr.stay _ hS) (Nat.lt_irrefl _),hB _ (H_ _),λm y hm hy hb'=>absurd (hr'.lt hm hy hb') (Nat.lt_irrefl _)⟩) hrow'
   refine⟨.value v',w',v',ext ν nm v',S,Dl ho (s:=Builtin.append_ tys o.type (xs.map ρ)) (λ_=>rfl) (by rw[htys',hxs'];simpa using hr1),.inl rfl,?_⟩;subst hout;refine⟨Af0 hν,Arx,λ_ h=>h,λ_ h=>.inl h,?_,λs hs=>?_,hr3.size,λb hb hn=>hkeep b hb λy hy e=>?_,hr3.os,hr3.tape,hr3.output⟩
   .have:AW h (D++[(nm,A (.row e (l++l')))])=λm=>if nm=m then A (.row e (l++l'))else h' m:=by
     subst hD;cases n0 with
     |none=>funext m;simp[AW,<-hh',Abs]
     |some n=>funext m;simp[AW,<-hh',Abs]
    simp only[this];exact hadd
   .simp at hs;subst hs;refine .p _ _ (.one _ _ ?_);rcases hr2.2 with⟨g1,g2⟩|⟨g,cap,cur,g1,_⟩
    .exact⟨_,_,_,CJ,g1⟩
    .exact⟨_,_,_,CJ,g1⟩
   .obtain⟨n,y',_,hn',hy',hb'⟩:=hblk y hy;subst e;exact hn n y' hn' hy' hb'
  unfold Atf at h5;cases c with
  |sc v=>
   simp[J]at h5;obtain⟨hρ,hsc⟩:=DN hev hc;have hl0:v=.slice C 0 0/\l=[]:=by
    unfold GA at hl;split at hl
    .rename_i heq;simp at hl heq;exact⟨heq,by first|exact hl|exact hl.symm⟩
    .rename_i heq;simp at heq
    .rename_i heq;simp at heq
    .simp at hl
   obtain⟨rfl,rfl⟩:=hl0;refine main [] C c'.rds h5.symm rfl ⟨[],⟨σ,.inl ⟨hρ,σ⟩⟩,σ⟩ (λb hb=>?_) σ;rw[hρ]at hb;simp[Value.ownBlock]at hb
  |own n=>
   obtain⟨hnn,h6⟩:=L h5;simp[J]at h6;obtain⟨av,lenv,capv,hνn,hρ⟩:=FF hev hc;unfold GA at hl;simp only at hl;split at hl
   .rename_i t' l0 hn;obtain⟨rfl,rfl⟩:=SG hl;refine main [(n,C)] (A n) (n::c'.rds) h6.symm rfl ?_ (λb hb=>?_) (λn' hn' e=>?_)
    .rcases hr.blk n _ hn with⟨g1,g2⟩|⟨b,cap,cc,te,g1,g2,g3,g4,g5,g6,g7⟩
     .rw[hνn]at g1;simp at g1;subst g2;exact⟨[],⟨σ,.inl ⟨g1,σ⟩⟩,σ⟩
     .rw[hνn]at g1;simp at g1;subst g6;have hmul:l.length*G.sz te<=cap*G.sz te:=B_ _ g3;refine⟨cc.toList.take (l.length*G.sz te),⟨by simp;omega,.inr ⟨b,cap,cc,g1,G_ _,g2,g3,g7,g4,rfl⟩⟩,λi j y cv hy hcv=>?_⟩;obtain⟨u,hu,hrd⟩:=g5 i j y cv hy hcv;have hi:i<l.length:=(g_.1 hy).1;have hj:j<G.sz te:=by have:=(g_.1 hcv).1;rw[hel]at this;exact this
      have:(i+1)*G.sz te<=l.length*G.sz te:=B_ _ ω
      rw[a0_]at this;exact⟨u,by rw[t_ ω];simpa using hu,hrd⟩
    .refine⟨n,ρ x,rfl,by rw[hn];simp,hνn,?_⟩;rw[hρ]at hb|-;cases av with
     |none=>simp[Value.ownBlock]at hb
     |some ad=>simpa[Value.ownBlock,AC]using hb
    .simp at hn';subst hn';subst e
     have:=hfresh n (by rw[<-h6];simp)
     rw[hνn]at this;simp at this
   .simp at hl
  |_=>simp[I]at h5
 |_=>simp[Az,Kd,ht,I]at hact
end
end Go.Ab
namespace Go.Ab
variable{G:Sig}
variable{α:Type}{m:M α}
def Law{α:Type}(m:M α):Prop:=∀(R:Type) (k:α->Option R),m R k=(m α A).bind k
def Law.spec{R:Type}(h:Law m){k:α->Option R}{r:R}(hm:m R k=A r):∃a,m α A=A a/\k a=A r:=by
 rw[h R k]at hm;cases hv:m α A with
 |none=>rw[hv]at hm;simp at hm
 |some a=>rw[hv]at hm;exact⟨a,rfl,hm⟩
def Ae(a:α):Law (J a):=λ_ _=>rfl
def Aj:Law (I:M α):=λ_ _=>rfl
def Am(b:Bool):Law (M.need b):=λ_ _=>by cases b<;>rfl
def AF(o:Option α):Law (M.opt o):=λ_ _=>by cases o<;>rfl
def Aj0(b:Bool):Law (M.split b):=λ_ _=>by cases b<;>rfl
def Ac{β:Type}{f:α->M β}(hm:Law m)(hf:∀a,Law (f a)):Law (M.bind m f):=λR k=>by
 show m R (λa=>f a R k)=(m β (λa=>f a β A)).bind k;rw[hm R,hm β];cases m α A with
 |none=>rfl
 |some a=>exact hf a R k
section
variable{cf:BW G}(hcf:∀g args h nm,Law (cf g args h nm)){ev:Operand->Option (Sv G.T)}{h:Nat->Option (W G.T)}{nm:Nat}
theorem NI(x:Operand):Law (evP ev x):=λR k=>by unfold evP;split<;>rfl
theorem CS(x:Operand):Law (evC ev x):=λR k=>by unfold evC;split<;>rfl
theorem DH(x:Operand):Law (evI ev x):=λR k=>by unfold evI;split<;>rfl
theorem Bgm(x:Operand):Law (evB ev x):=λR k=>by unfold evB;split<;>rfl
theorem PZ:∀xs:List Operand,Law (TS ev xs)
 |[]=>Ae _
 |x::t=>Ac (NI x) λ_=>Ac (PZ t) λ_=>Ae _
theorem Mx:∀xs:List (Nat×Operand),Law (Hc ev xs)
 |[]=>Ae _
 |(_,x)::t=>Ac (NI x) λ_=>Ac (Mx t) λ_=>Ae _
theorem QC(d m:Nat)(x:Option Operand):Law (EO ev d m x):=by
 cases x with
 |none=>exact Ae _
 |some x=>unfold EO;exact Ac (DH x) λ_=>Ac (Am _) λ_=>Ae _
theorem Aae(x:Operand):Law (Qy ev x):=λR k=>by unfold Qy;split<;>rfl
theorem Aek{α:Type}{k:Nat->M α}(hk:∀q,Law (k q))(i:Nat):∀n q:Nat,Law (M.pick k i q n)
 |0,_=>Aj
 |n+1,q=>by
  unfold M.pick;refine Ac (Aj0 _) λb=>?_;cases b
  .exact Aek hk i n (q+1)
  .exact hk q
theorem Bcu(e:Nat)(c:Cv G.T):Law (Aod h e c):=by
 unfold Aod;split
 .exact Ae _
 .exact Ac (AF _) λ_=>Ae _
theorem Ay6(t e:Nat)(l:List (G.T e))(c c':Cv G.T):Law (Abr h t e l c c'):=by
 unfold Abr;split
 .split<;>first|exact Aj|exact Ac (Am _) λ_=>Ac (AF _) λ_=>Ae _
 .split<;>first|exact Aj|exact Ac (Am _) λ_=>Ac (AF _) λ_=>Ac (Am _) λ_=>Ae _
 .exact Aj
theorem Aqi(e len:Nat)(cs:List (Cv G.T)):Law (WT h nm e len cs):=by
 unfold WT;split
 .exact Ac (Am _) λ_=>Ae _
 .exact Ac (AF _) λ_=>Ac (AF _) λ_=>Ae _
theorem Auu(c:Cv G.T)(cs:List (Cv G.T)):Law (Abb h c cs):=by
 unfold Abb;split
 .exact Ac (AF _) λ_=>Ac (Am _) λ_=>Ac (AF _) λ_=>Ae _
 .unfold Rt;exact Ac (AF _) λ_=>Ae _
theorem Bgl(op:BinOp)(x y:Value):Law (bin op x y):=by
 unfold bin;split
 .unfold Rf;split<;>first
   |exact Ac (Am _) λ_=>Ae _
   |exact Ac (Am _) λ_=>Ac (AF _) λ_=>Ae _
   |exact Ac (Am _) λ_=>Ac (Am _) λ_=>Ae _
 .unfold Afm;split<;>exact Ac (Am _) λ_=>Ac (AF _) λ_=>Ae _
 .unfold Afn;split<;>first|exact Aj|exact Ae _|exact Ac (Am _) λ_=>Ae _
 .exact Aj
theorem Aqh(b:Builtin)(tys:List Nat)(xs:List Operand):Law (Az ev h nm b tys xs):=by
 unfold Az;split
 .unfold VI;split
  .refine Ac (CS _) λc=>?_;split<;>first|exact Aj|exact Ae _
  .exact Ae _
  .exact Ac (CS _) λ_=>Bcu _ _
  .exact Aj
 .unfold Atk;exact Ac (DH _) λ_=>Ac (DH _) λ_=>Ac (Am _) λ_=>Ae _
 .unfold Atj;exact Ac (DH _) λ_=>Ac (DH _) λ_=>Ac (Am _) λ_=>Ae _
 .unfold Alr;exact Ac (DH _) λ_=>Ac (DH _) λ_=>Ac (DH _) λ_=>Ac (Am _) λ_=>Ac (Am _) λ_=>Ae _
 .unfold Alq;exact Ac (DH _) λ_=>Ac (DH _) λ_=>Ac (DH _) λ_=>Ac (Am _) λ_=>Ac (Am _) λ_=>Ae _
 .unfold Kd;split
  .refine Ac (Am _) λ_=>Ac (CS _) λc=>Ac (CS _) λ_=>Ac (AF _) λ_=>Ac (AF _) λ_=>Ac (Am _) λ_=>?_;unfold Atf;split
   .exact Ae _
   .exact Ac (Am _) λ_=>Ae _
   .exact Aj
  .exact Aj
 .unfold QA;split
  .exact Ac (Am _) λ_=>Ac (CS _) λ_=>Ac (CS _) λ_=>Ac (AF _) λ_=>Ay6 _ _ _ _ _
  .exact Aj
 .exact Aj
theorem Agg{α:Type}(i:Nat)(f:Nat->Option α):∀l,Law (Uk i f l)
 |[]=>Aj
 |q::t=>λR k=>by
  simp only[Uk];cases aD i q with
  |true=>exact AF _ R k
  |false=>exact Agg i f t R k
theorem Ay7(h:Nat->Option (W G.T))(n:Nat)(c:Cv G.T):Law (Vf h n c):=by
 unfold Vf;cases Abp h c with
 |false=>exact AF _
 |true=>
  rw[d_];split
  .exact Agg _ _ _
  .exact Aj
include hcf
theorem Aby(op:Op):Law (act cf ev h nm op):=by
 cases op
 case makeFunc fn a b=>
  cases fn
  case func f=>show Law (UT ev f a.toList b.toList);unfold UT;exact Ac (PZ _) λ_=>Ac (PZ _) λ_=>Ac (AF _) λ_=>Ac (AF _) λ_=>Ae _
  all_goals exact Aj
 case call c=>
  obtain⟨callee,xs,tys⟩:=c;cases callee
  case value f=>
   show Law (OV cf ev h nm f xs.toList);unfold OV;refine Ac (CS _) λc=>Ac (PZ _) λa=>?_;cases c<;>try exact Aj
   show Law (match G.ext _ with|0=>_|1=>_|_=>_);split
   .exact hcf _ _ _ _
   .unfold XF;split<;>first|exact Aj|exact Ae _
   .unfold XG;split<;>first|exact Aj|exact Ae _
  case builtin b=>exact Aqh _ _ _
  case invoke=>exact Aj
 case move x=>exact Aae x
 case assign x=>exact Aae x
 case pick c a b=>show Law (UU ev c a b);unfold UU;exact Ac (Bgm _) λ_=>Ac (Aj0 _) λ_=>Aae _
 case alloc t=>show Law (ZB nm t);unfold ZB;split<;>first|exact Aj|exact Ae _
 case box t x=>show Law (ZD ev nm x);unfold ZD;exact Ac (NI _) λ_=>Ac (Am _) λ_=>Ae _
 case build t ps=>show Law (QW ev t ps.toList);unfold QW;split<;>first|exact Aj|exact Ac (Mx _) λ_=>Ac (AF _) λ_=>Ae _
 case buildSlice t n ps=>show Law (Dk ev h nm t n ps.toList);unfold Dk;split<;>first|exact Aj|exact Ac (Mx _) λ_=>Ac (Am _) λ_=>Ac (AF _) λ_=>Aqi _ _ _
 case load t a=>show Law (OY ev h t a);unfold OY;exact Ac (CS _) λ_=>Ac (Ay7 _ _ _) λ_=>Ac (AF _) λ_=>Ae _
 case store t a x=>show Law (Lc ev h t a x);unfold Lc;exact Ac (CS _) λ_=>Ac (NI _) λ_=>Ac (Am _) λ_=>Auu _ _
 case nilCheck x=>show Law (ZE ev x);unfold ZE;exact Ac (CS _) λ_=>Ac (Am _) λ_=>Ae _
 case binOp op t x y u=>
  show Law (ZC ev op t x y);unfold ZC;refine Ac (NI _) λa=>Ac (NI _) λb=>?_;unfold Bby;split
  .unfold Bbw;cases Au1 _ with
   |true=>rw[d_];refine Ac (AF _) λq=>?_;unfold Bbx;split<;>first|exact Aj|exact Ae _
   |false=>
   simp only[c_];split
   .unfold Amu;split
    .split<;>first|exact Aj|exact Ae _
    .exact Ac (Bgl _ _ _) λ_=>Ae _
   .exact Aj
  .refine Ac (Am _) λ_=>Ac (AF _) λ_=>?_;split<;>first|exact Aj|exact Ae _
  .exact Aj
 case unOp op t x=>show Law (aUn ev op x);unfold aUn;refine Ac (CS _) λc=>?_;unfold unP;split<;>first|exact Aj|exact Ae _|exact Ac (AF _) λ_=>Ae _
 case convert s t x=>
  show Law (OX ev h s t x);unfold OX;refine Ac (Am _) λ_=>Ac (CS _) λc=>?_;have hcv:∀y,Law (Abq (G:=G) y c):=λy=>by unfold Abq;split<;>first|exact Aj|exact Ae _
  split
  .cases Agc (G.ty t)with
   |true=>rw[d_];refine Ac (Am _) λ_=>Ac (AF _) λ_=>Ae _
   |false=>rw[c_];exact hcv _
  .exact hcv _
 case makeSlice t x y=>show Law (Hx ev nm t x y);unfold Hx;split<;>first|exact Aj|exact Ac (DH _) λ_=>Ac (DH _) λ_=>Ac (Am _) λ_=>Ac (AF _) λ_=>Ae _
 case slice t x lo hi mx=>
  show Law (QZ ev t x lo hi mx);unfold QZ;split
  .exact Aj
  .split
   .refine Ac (CS _) λc=>?_;unfold WV;split<;>first|exact Aj|exact Ac (QC _ _ _) λ_=>Ac (QC _ _ _) λ_=>Ae _
   .refine Ac (CS _) λc=>?_;unfold WU;split<;>first|exact Aj|exact Ac (Am _) λ_=>Ac (QC _ _ _) λ_=>Ac (QC _ _ _) λ_=>Ae _
   .refine Ac (CS _) λc=>?_;unfold Apk;split<;>first|exact Aj|exact Ae _
   .exact Aj
 case fieldAddr t x f=>show Law (Hw ev t x f);unfold Hw;split<;>first|exact Aj|exact Ac (CS _) λ_=>Ac (AF _) λ_=>Ac (AF _) λ_=>Ae _
 case field t x f=>
  show Law (QX ev t x f);unfold QX;split
  .refine Ac (NI _) λy=>?_;unfold Af1;split<;>first|exact Aj|exact Ac (AF _) λ_=>Ac (AF _) λ_=>Ac (AF _) λ_=>Ae _
  .exact Aj
 case indexAddr t x i=>
  show Law (Ed ev h t x i);unfold Ed;split
  .refine Ac (CS _) λc=>Ac (DH _) λi=>?_;unfold ixA;split<;>first|exact Aj|exact Ac (Am _) λ_=>Ac (AF _) λ_=>Ac (AF _) λ_=>Ae _|exact Ac (Am _) λ_=>Ae _
  .refine Ac (CS _) λc=>Ac (DH _) λi=>?_;unfold ixS;split
   .split<;>first|exact Aj|exact Ac (Am _) λ_=>Ac (Am _) λ_=>Ae _
   .exact Ac (Am _) λ_=>Ac (Am _) λ_=>Ae _
   .exact Ac (Am _) λ_=>Aek (λ_=>Ae _) _ _ _
   .exact Aj
  .exact Aj
 case index t x i=>
  show Law (QY ev t x i);unfold QY;split
  .refine Ac (NI _) λc=>Ac (DH _) λi=>?_;unfold Al4;split
   .refine Ac (Am _) λ_=>?_;split
    .exact Aek (λ_=>Ac (AF _) λ_=>Ac (AF _) λ_=>Ae _) _ _ _
    .exact Ac (AF _) λ_=>Ac (AF _) λ_=>Ae _
   .exact Aj
  .refine Ac (CS _) λc=>Ac (DH _) λi=>?_;unfold ixV;split<;>first|exact Aj|exact Ac (Am _) λ_=>Ae _
  .exact Aj
 case extract x i=>
  show Law (Lb ev x i);intro R k;unfold Lb;split
  .split<;>rfl
  .rfl
 all_goals exact Aj
end
end Go.Ab
namespace Go.Ab
variable{G:Sig}
variable{l:List (Pv G.T)}{out:O G}
def Ayk(h:XF l (O G) A=A out):∃n,l=[.one (.sc (.float .f64 n))]/\out=outV (.int .u64 (n:Int)):=by
 rcases l with _|⟨x,_|⟨y,t⟩⟩
 .simp[XF,I]at h
 .cases x with
  |agg _=>simp[XF,I]at h
  |one c=>
   cases c with
   |sc v=>
    cases v with
    |float k n=>
     cases k with
     |f32=>simp[XF,I]at h
     |f64=>exact⟨n,rfl,(D_ h).symm⟩
    |_=>simp[XF,I]at h
   |_=>simp[XF,I]at h
 .simp[XF,I]at h
def Ayl(h:XG l (O G) A=A out):∃n,l=[.one (.sc (.int .u64 n))]/\out=outV (.float .f64 n.toNat):=by
 rcases l with _|⟨x,_|⟨y,t⟩⟩
 .simp[XG,I]at h
 .cases x with
  |agg _=>simp[XG,I]at h
  |one c=>
   cases c with
   |sc v=>
    cases v with
    |int k n=>cases k<;>first|exact⟨n,rfl,(D_ h).symm⟩|simp[XG,I]at h
    |_=>simp[XG,I]at h
   |_=>simp[XG,I]at h
 .simp[XG,I]at h
structure CfOK(P:Program)(G:Sig)(cf:BW G):Prop where
 law:∀g args h nm,Law (cf g args h nm)
 calls:∀g args h nm out,cf g args h nm (Out G) some=some out->
  (∃ fn, P.funcs[g]? = some fn /\ (fn.name == "runtime.NumGoroutine") = false /\ fn.body.isNone = false) /\
  ∀(ν:Nat->Option Value) (S B:Nat->Prop) (w:World) (vals:List Value),HRel G ν S B h w->(∀b,w.heap.size<=b->B b)->(∀n∈out.nw,ν n=none)->F2 (Rp G ν S w.heap) args vals->
   Calls P g vals.toArray w λe w'=>∃v ν' S',e=.returned v/\Post G ν S B h w out (AW h out.d) ν' S' w' v
def YN{ev:Operand->Option (Sv G.T)}{h:Nat->Option (W G.T)}{nm:Nat}{b:Builtin}{tys:List Nat}{xs:List Operand}(hact:Az ev h nm b tys xs (O G) A=A out):
  (b=.len/\∃t ts x,tys=t::ts/\xs=[x])\/(b=.min/\∃x y,xs=[x,y])\/(b=.max/\∃x y,xs=[x,y])\/(b=.append/\∃t x y,tys=[t,t]/\xs=[x,y])\/
  (b=.min/\∃x y z,xs=[x,y,z])\/(b=.max/\∃x y z,xs=[x,y,z])\/(b=.copy/\∃t x y,tys=[t,t]/\xs=[x,y]):=by
 cases b with
 |len=>rcases tys with _|⟨t,ts⟩<;>rcases xs with _|⟨x,_|⟨y,zs⟩⟩<;>first|(simp[Az,I]at hact;done)|exact .inl ⟨rfl,_,_,_,rfl,rfl⟩
 |min=>rcases xs with _|⟨x,_|⟨y,_|⟨z,_|⟨u,zs⟩⟩⟩⟩<;>first|(simp[Az,I]at hact;done)|exact .inr (.inl ⟨rfl,_,_,rfl⟩)|exact .inr (.inr (.inr (.inr (.inl ⟨rfl,_,_,_,rfl⟩))))
 |max=>rcases xs with _|⟨x,_|⟨y,_|⟨z,_|⟨u,zs⟩⟩⟩⟩<;>first|(simp[Az,I]at hact;done)|exact .inr (.inr (.inl ⟨rfl,_,_,rfl⟩))|exact .inr (.inr (.inr (.inr (.inr (.inl ⟨rfl,_,_,_,rfl⟩)))))
 |append=>
  rcases tys with _|⟨t,_|⟨t',_|⟨t2,ts⟩⟩⟩<;>rcases xs with _|⟨x,_|⟨y,_|⟨z,zs⟩⟩⟩<;>first|(simp[Az,I]at hact;done)|skip
  have hb:Kd ev h nm t t' x y (O G) A=A out:=hact
  have:t=t':=by unfold Kd at hb;cases ht:G.ty t<;>simp only[ht]at hb<;>first|(simp[I]at hb;done)|exact AA.1 (L hb).1
  subst this;exact .inr (.inr (.inr (.inl ⟨rfl,_,_,_,rfl,rfl⟩)))
 |copy=>
  rcases tys with _|⟨t,_|⟨t',_|⟨t2,ts⟩⟩⟩<;>rcases xs with _|⟨x,_|⟨y,_|⟨z,zs⟩⟩⟩<;>first|(simp[Az,I]at hact;done)|skip
  have hb:QA ev h t t' x y (O G) A=A out:=hact
  have:t=t':=by unfold QA at hb;cases ht:G.ty t<;>simp only[ht]at hb<;>first|(simp[I]at hb;done)|exact AA.1 (L hb).1
  subst this;exact .inr (.inr (.inr (.inr (.inr (.inr ⟨rfl,_,_,_,rfl,rfl⟩)))))
 |_=>simp[Az,I]at hact
section
variable{P:Program}{ν:Nat->Option Value}{S B:Nat->Prop}{h:Nat->Option (W G.T)}{w:World}{a:Act}{o:Oper}
variable(ok:SigOK P G)(eqok:EqOK P G){cf:BW G}(cfok:CfOK P G cf)
 {ev:Operand->Option (Sv G.T)}(hev:∀x s,ev x=A s->Rs G ν S w.heap s (a.eval x)) (hr:HRel G ν S B h w) (hB:∀b,w.heap.size<=b->B b)
 {nm:Nat}{out:O G}(hfresh:∀n∈out.nw,ν n=C)
include ok eqok cfok hev hr hB hfresh
theorem Bjj(hact:act cf ev h nm o.op (O G) A=A out){K:Act->World->Prop}{Q:Exit->Act->World->Prop}
  (hK:∀ν' S' w' v,Post G ν S B h w out (AW h out.d) ν' S' w' v->K (a.put o.dst v) w'):o.wp P a w K Q:=by
 have fin:Z P G a.eval o ν S B h w out->o.wp P a w K Q:=by
  rintro⟨nx,w',v,ν',S',hrun,hnx,hp⟩;unfold Oper.wp;rw[hrun];rcases hnx with rfl|⟨rfl,rfl⟩
  .exact hK _ _ _ _ hp
  .exact hK _ _ _ _ hp
 cases ho:o.op with
 |move x=>rw[ho]at hact;exact fin (Aj5 hev hr (.inl ho) hact)
 |assign x=>rw[ho]at hact;exact fin (Aj5 hev hr (.inr ho) hact)
 |pick c x y=>rw[ho]at hact;exact fin (Azm hev hr ho hact)
 |alloc t=>rw[ho]at hact;exact fin (Atd ok hr hB hfresh ho hact)
 |box t x=>rw[ho]at hact;exact fin (Bb2 hev hr hB hfresh ho hact)
 |build t ps=>rw[ho]at hact;exact fin (Atr ok hev hr ho hact)
 |buildSlice t n ps=>rw[ho]at hact;exact fin (Afq ok hev hr hB hfresh ho hact)
 |load t x=>rw[ho]at hact;exact fin (Azc ok hev hr ho hact)
 |store t x y=>rw[ho]at hact;exact fin (Awb ok hev hr ho hact)
 |nilCheck x=>rw[ho]at hact;exact fin (Bc6 hev hr ho hact)
 |binOp op t x y u=>rw[ho]at hact;exact fin (Bbz ok eqok hev hr ho hact)
 |unOp op t x=>rw[ho]at hact;exact fin (Bg3 hev hr ho hact)
 |convert s t x=>rw[ho]at hact;exact fin (Ayb ok hev hr ho hact)
 |makeFunc fn x y=>
  rw[ho]at hact;cases fn with
  |func f=>exact fin (Ak2 hev hr ho hact)
  |_=>simp[act,I]at hact
 |makeSlice t x y=>rw[ho]at hact;exact fin (Ais ok hev hr hB hfresh ho hact)
 |slice t x lo hi mx=>rw[ho]at hact;exact fin (Av2 ok hev hr ho hact)
 |fieldAddr t x f=>rw[ho]at hact;exact fin (Aik ok hev hr ho hact)
 |field t x f=>rw[ho]at hact;exact fin (Auh ok hev hr ho hact)
 |indexAddr t x i=>rw[ho]at hact;exact fin (Ain ok hev hr ho hact)
 |index t x i=>rw[ho]at hact;exact fin (Auq ok hev hr ho hact)
 |extract x i=>rw[ho]at hact;exact fin (Anq hev hr ho hact)
 |call c=>
  rw[ho]at hact;obtain⟨callee,xs,tys⟩:=c;cases callee with
  |invoke r m=>exact absurd hact (by intro e;cases e)
  |builtin b=>
   have hact:Az ev h nm b tys.toList xs.toList (O G) A=A out:=hact;rcases YN hact with⟨rfl,t,ts,x,h1,h2⟩|⟨rfl,x,y,h1⟩|⟨rfl,x,y,h1⟩|⟨rfl,t,x,y,h1,h2⟩|⟨rfl,x,y,z,h1⟩|⟨rfl,x,y,z,h1⟩|⟨rfl,t,x,y,h1,h2⟩
   .exact fin (Bcv ok hev hr ho ⟨_,h1⟩ h2 hact)
   .exact fin (Ac9 hev hr (.inl rfl) ho h1 hact)
   .exact fin (Ac9 hev hr (.inr rfl) ho h1 hact)
   .exact fin (Apx ok hev hr hB hfresh ho h1 h2 hact)
   .exact fin (Aai hev hr (.inl rfl) ho h1 hact)
   .exact fin (Aai hev hr (.inr rfl) ho h1 hact)
   .exact fin (Ayc ok hev hr ho h1 h2 hact)
  |value f=>
   have hact:OV cf ev h nm f xs.toList (O G) A=A out:=hact;unfold OV at hact;obtain⟨c,hc,h1⟩:=aB hact;obtain⟨as,h2,has⟩:=Afo h1;unfold Xp at h2;cases c with
   |clo g fst caps=>
    simp only at h2;obtain⟨vp,vq,hv,hvp,hvq⟩:=FF hev hc;have hptr:∀(ps:List (Nat×Nat)) (vs:List Value),F2 (RPtr ν) ps vs->F2 (Rp G ν S w.heap) (ps.map Aer) vs:=λps vs hps=>F2.map_left (hps.mono λp v hpv=>.one _ _ hpv);have hargs:F2 (Rp G ν S w.heap) as (xs.toList.map a.eval):=by
     refine⟨by simp[has.1],λi x v hx hv=>?_⟩;rw[b7_]at hv;cases hq:xs.toList[i]? with
     |none=>simp[hq]at hv
     |some y=>simp[hq]at hv;subst hv;exact Ug hev (has.2 i y x hq hx)
    have hall:=(hptr _ _ hvp).append (hargs.append (hptr _ _ hvq));have hext:∀(m:Nat) (u:Value),G.ext g=m->m≠0->((Bcg m) (vp++(xs.toList.map a.eval++vq)).toArray).run P w=.ok u w->out=outV u->IC u=N->o.wp P a w K Q:=by
     intro m u hm h0 hrun he hsc;obtain⟨fn,f1,f2,f3,f4,f5⟩:=ok.ext g (by rw[hm];exact h0);rw[hm]at f5;refine fin ?_;rw[he];refine aA hr ?_ hsc;unfold execOp;rw[ho]
     have:=run_callFunc_extern f1 f2 f3 f4 f5 (vp++(xs.toList.map a.eval++vq)).toArray w
     rw[hrun]at this;simp only[resolve,hv,Deferred.ofValue,invoke,z_,a4_,q_];rw[show(vp++(xs.toList.map a.eval++vq)).toArray=vp.toArray++(xs.map a.eval++vq.toArray)from by apply Array.ext';simp]at this;simpa using this
    generalize hm:G.ext g=m at h2
    match m,hm,h2 with
    |1,hm,h2=>
     obtain⟨n,hl,h3⟩:=Ayk h2;rw[hl]at hall;obtain⟨v0,t0,e0,hv0,ht0⟩:=hall.inv;obtain rfl:=ht0.inv_nil;have e1:v0=.float .f64 n:=by cases hv0 with|one _ _ hc=>cases(show Rd G S w.heap (.sc (.float .f64 n)) v0 from hc);rfl
     exact hext 1 _ hm ω (by rw[e0,e1];rfl) h3 rfl
    |m+2,hm,h2=>
     obtain⟨n,hl,h3⟩:=Ayl h2;rw[hl]at hall;obtain⟨v0,t0,e0,hv0,ht0⟩:=hall.inv;obtain rfl:=ht0.inv_nil;have e1:v0=.int .u64 n:=by cases hv0 with|one _ _ hc=>cases(show Rd G S w.heap (.sc (.int .u64 n)) v0 from hc);rfl
     exact hext (m+2) _ hm ω (by rw[e0,e1];rfl) h3 rfl
    |0,hm,h2=>
     obtain⟨⟨fn,hfn,hname,hbody⟩,hcalls⟩:=cfok.calls g _ h nm out h2;have hc:=hcalls ν S B w _ hr hB hfresh hall;have hexec:(execOp a.eval o).run P w=.ok (.enter g (vp++(xs.toList.map a.eval++vq)).toArray) w:=by unfold execOp;rw[ho];simp only[resolve,hv,Deferred.ofValue,invoke,callFunc,z_,a4_,q_,run_program,hfn,hname,hbody];simp[<-Array.toList_map]
     unfold Oper.wp;rw[hexec];refine hc.mono λe w' ⟨v,ν',S',he,hp⟩=>?_;subst he;exact hK _ _ _ _ hp
   |_=>simp[I]at h2
 |_=>rw[ho]at hact;simp[act,I]at hact
end
end Go.Ab
namespace Go.Ab
variable{G:Sig}
variable{ν:Nat->Option Value}{S:Nat->Prop}{a:Act}{w:World}{st:St G}{ops:Array Oper}{d:Option Nat}{v:Value}{o:Oper}{b:Bool}{gs g j:Nat}
structure Cx where
 w0:World
 mo:Nat->Prop
 s0:Nat->Prop
 nu0:Nat->Option Value
 nt:Nat
 df:List Deferred:=[]
def Cx.own(cx:Cx)(b:Nat):Prop:=cx.mo b\/cx.w0.heap.size<=b
structure RelI(G:Sig)(cx:Cx)(ν:Nat->Option Value)(S:Nat->Prop)(st:St G)(a:Act)(w:World):Prop where
 slot:∀k s,get st.tm k=some s->Rs G ν S w.heap s (a.tmps.getD k undef)
 heap:HRel G ν S cx.own (get st.hp) w
 used:∀n,ν n≠none->n∈st.us
 defers:a.defers=cx.df
 nt:a.tmps.size=cx.nt
 size:cx.w0.heap.size<=w.heap.size
 frame:∀b,b<cx.w0.heap.size->¬cx.mo b->w.heap[b]?=cx.w0.heap[b]?
 env:w.os=cx.w0.os/\w.tape=cx.w0.tape/\w.output=cx.w0.output
 sub:∀b,S b->cx.s0 b\/cx.own b
 keep:∀b,cx.s0 b->S b
 names:∀n x,cx.nu0 n=some x->ν n=some x
def Rel(G:Sig)(cx:Cx)(st:St G)(a:Act)(w:World):Prop:=∃ν S,RelI G cx ν S st a w
def Rel.drawn{cx:Cx}(h:Rel G cx st a w)(n:Nat):Rel G cx st a { w with drawn:=n }:=
 let⟨ν,S,r⟩:=h
 ⟨ν,S,⟨r.slot,⟨r.heap.blk,r.heap.apart,r.heap.own,r.heap.stay,r.heap.gl⟩,r.used,r.defers,r.nt,r.size,r.frame,r.env,r.sub,r.keep,r.names⟩⟩
def Ar2{h:Array Obj}(hv:IC v=N):Rd G S h (.sc v) v:=.sc v hv
def Aqe{tm:List (Nat×Sv G.T)}(hg:GlOK G S w.heap)(hs:∀k s,Y tm k=A s->Rs G ν S w.heap s (a.tmps.getD k undef))(x:Operand)(s:Sv G.T)
  (he:Pe tm x=A s):Rs G ν S w.heap s (a.eval x):=by
 cases x with
 |tmp t=>exact hs t s he
 |global g=>
  simp only[Pe]at he;split at he
  .rename_i p hp;simp at he;subst he;exact .p _ _ (.one _ _ (hg g p hp).1)
  .simp at he
 |func f=>simp[Pe]at he;subst he;exact .p _ _ (.one _ _ ⟨[],[],rfl,.nil,.nil⟩)
 |const v=>
  have one:(bif IC v then A (Sv.p (Pv.one (Cv.sc v)))else C)=A s->Rs G ν S w.heap s v:=by
   intro h;cases hv:IC v with
   |false=>simp[hv]at h
   |true=>simp[hv]at h;subst h;exact .p _ _ (.one _ _ (Ar2 hv))
  cases v with
  |agg cs=>
   simp only[Pe]at he;cases hall:cs.toList.all IC with
   |false=>rw[hall]at he;simp at he
   |true=>
    rw[hall]at he;simp at he;subst he;refine .p _ _ ?_
    have:(Value.agg cs)=.agg cs.toList.toArray:=by simp
    show Rp G ν S w.heap _ (Value.agg cs);rw[this];refine .agg _ _ (F2.map_left ⟨rfl,λi x y hx hy=>?_⟩);rw[hx]at hy;simp at hy;subst hy;exact Ar2 (C_.1 hall x (p_ hx))
  |_=>exact one he
def Anx{d:Nat}(hd:d<a.tmps.size)(k:Nat):(a.put (A d) v).tmps.getD k undef=if d=k then v else a.tmps.getD k undef:=by
 simp only[Act.put,r_,e3_];by_cases e:d=k
 .subst e;simp[hd]
 .simp[e]
def Apj:(a.put d v).tmps.size=a.tmps.size:=by cases d<;>simp[Act.put]
def Aua:(a.put d v).defers=a.defers:=by cases d<;>rfl
def RelI.drop{cx:Cx}(r:RelI G cx ν S st a w)(hd:MX cx.nt d=N):
  RelI G cx ν S (st.drop d) (a.put d undef) w:=by
 cases d with
 |none=>exact r
 |some d=>
  have hlt:d<a.tmps.size:=by rw[r.nt];simp[MX,aF]at hd;omega
  refine⟨λk s hk=>?_,r.heap,r.used,r.defers,by rw[Apj];exact r.nt,r.size,r.frame,r.env,r.sub,r.keep,r.names⟩;simp only[St.drop,SZ]at hk;rw[Anx hlt];by_cases e:d=k
  .rw[if_pos e]at hk|-;simp at hk;subst hk;exact .tup _ _ .nil
  .rw[if_neg e]at hk|-;exact r.slot k s hk
def RelI.note{cx:Cx}(r:RelI G cx ν S st a w)(hg:Y st.tm g=A (.p (.one (.sc (.bool b))))):
  RelI G cx ν S (st.note (A (g,b))) a w:=by
 refine⟨λk s hk=>?_,r.heap,r.used,r.defers,r.nt,r.size,r.frame,r.env,r.sub,r.keep,r.names⟩;simp only[St.note,SZ]at hk;by_cases e:g=k
 .subst e;simp at hk;subst hk;exact r.slot g _ hg
 .rw[if_neg e]at hk;exact r.slot k s hk
def Akn{cx:Cx}(r:RelI G cx ν S st a w)(hg:Y st.tm g=A (.p (.one (.sc (.bool b))))):
  a.tmps.getD g undef=.bool b:=by
 have h:=r.slot g _ hg;generalize a.tmps.getD g undef=v at h;cases h with
 |p _ _ h=>
  cases h with
  |one _ _ h=>have h':Rd G S w.heap (.sc (.bool b)) v:=h;cases h';rfl
def RelI.next{cx:Cx}(r:RelI G cx ν S st a w)(hd:MX cx.nt d=N){out:O G}
  {ν':Nat->Option Value}{S':Nat->Prop}{w':World}{v:Value}(hp:Post G ν S cx.own (Y st.hp) w out (AW (Y st.hp) out.d) ν' S' w' v):RelI G cx ν' S' (st.next d out) (a.put d v) w':=by
 have le:=hp.le r.heap;refine⟨λk s hk=>?_,?_,λn hn=>?_,by rw[Aua];exact r.defers,by rw[Apj];exact r.nt,d8_ r.size hp.size,λb hb hm=>?_,?_,λb hb=>?_,λb hb=>hp.st b (r.keep b hb),λn x hn=>hp.nu n x (r.names n x hn)⟩
 .cases d with
  |none=>exact(r.slot k s hk).mono le
  |some d=>
   have hlt:d<a.tmps.size:=by rw[r.nt];simp[MX,aF]at hd;omega
   rw[Anx hlt];simp only[St.next]at hk;split at hk
   .rename_i u hu;rw[SZ]at hk;by_cases e:d=k
    .rw[if_pos e]at hk|-;simp at hk;subst hk;exact hp.val _ hu
    .rw[if_neg e]at hk|-;exact(r.slot k s hk).mono le
   .rw[WH]at hk;by_cases e:d=k
    .rw[if_pos e]at hk;simp at hk
    .rw[if_neg e]at hk|-;exact(r.slot k s hk).mono le
 .simp only[St.next,XL];exact hp.rel
 .rcases hp.new n hn with h|h
  .exact u_.2 (.inr (r.used n h))
  .exact u_.2 (.inl h)
 .rw[hp.frame b (c5_ hb r.size) λn x hn hx e=>?_]
  .exact r.frame b hb hm
  .rcases(r.heap.own n x b hn hx e).2 with h|h
   .exact hm h
   .omega
 .exact⟨hp.env.1.trans r.env.1,hp.env.2.1.trans r.env.2.1,hp.env.2.2.trans r.env.2.2⟩
 .rcases hp.stn b hb with h|h
  .exact r.sub b h
  .exact .inr h
def ZW{us l:List Nat}(h:HW us l=N):∀n∈l,n∉us:=by
 induction l with
 |nil=>simp
 |cons k t ih=>
  simp only[HW,e_]at h;intro n hn;rcases v_.1 hn with rfl|hn
  .intro hm;rw[(Fw us n).2 hm]at h;simp at h
  .exact ih h.2 n hn
section
variable{P:Program}(ok:SigOK P G)(eqok:EqOK P G){cf:BW G}(cfok:CfOK P G cf){cx:Cx}
omit eqok ok in
theorem Ve(ops:Array Oper)(tm:List (Nat×Sv G.T))(o:Oper):Law (Ta ops tm o):=by
 unfold Ta;split
 .exact Ae _
 .intro R k;unfold Af9;split
  .split
   .rename_i b _;cases b<;>rfl
   .rfl
   .rfl
  .rfl
include cfok in
theorem Aob(ops:Array Oper)(o:Oper)(st:St G):Law (Amc cf cx.nt ops o st):=by
 refine Ac (Am _) λ_=>Ac (Ve _ _ _) λg=>?_;split
 .exact Ac (Aby cfok.law _) λ_=>Ac (Am _) λ_=>Ae _
 .exact Ae _
include cfok in
theorem SQ(ops:Array Oper):∀(l:List Oper) (st:St G),Law (Ui cf cx.nt ops l st)
 |[],_=>Ae _
 |o::t,st=>Ac (Aob cfok ops o st) λst=>SQ ops t st
inductive StepTo(cf:BW G)(nt:Nat)(ops:Array Oper)(o:Oper)(st st':St G):Prop
 |act (g:Option (Nat×Bool)) (out:Out G) (hd:MX nt o.dst=true)
   (hg:∀p,g=some p->get st.tm p.1=some (.p (.one (.sc (.bool p.2))))/\∃j want,o.guard=some (j,want)/\(ops[j]?).bind (·.dst)=some p.1/\p.2=want)
   (hn:g=none->o.guard=none) (hact:act cf (Pe st.tm) (get st.hp) (Alz 0 o.dst) o.op (Out G) some=some out) (hf:HW st.us out.nw=true) (e:st'=(st.note g).next o.dst out)
 |skip (p:Nat×Bool) (j:Nat) (want:Bool) (hd:MX nt o.dst=true) (hp:get st.tm p.1=some (.p (.one (.sc (.bool p.2))))) (hg:o.guard=some (j,want)) (hj:(ops[j]?).bind (·.dst)=some p.1) (hw:p.2≠want)
   (e:st'=(st.note (some p)).drop o.dst)
 |skipU (gs j:Nat) (want:Bool) (hd:MX nt o.dst=true) (hp:get st.tm gs=some (.tup [])) (hg:o.guard=some (j,want)) (hj:(ops[j]?).bind (·.dst)=some gs)
   (e:st'=st.drop o.dst)
include cfok in
theorem Bgx{nt:Nat}{st':St G}(h:Amc cf nt ops o st (St G) A=A st'):StepTo cf nt ops o st st':=by
 unfold Amc at h;obtain⟨hd,h1⟩:=L h;obtain⟨⟨go,g⟩,hgo,h2⟩:=(Ve ops st.tm o).spec (aC h1);have hcar:∀(hg:∀p,g=A p->Y st.tm p.1=A (.p (.one (.sc (.bool p.2))))/\∃j want,o.guard=A (j,want)/\(ops[j]?).bind (·.dst)=A p.1/\p.2=want) (hn:g=C->o.guard=C),go=N->StepTo cf nt ops o st st':=by intro hg hn hgo;subst hgo;simp only at h2;obtain⟨out,hout,h3⟩:=(Aby cfok.law _).spec (aC h2);obtain⟨hf,h4⟩:=L h3;simp[J]at h4;exact .act g out hd hg hn hout hf h4.symm
 unfold Ta at hgo;cases hog:o.guard with
 |none=>simp[hog,J]at hgo;obtain⟨rfl,rfl⟩:=hgo;exact hcar σ (λ_=>hog) rfl
 |some jw=>
  obtain⟨j,want⟩:=jw;simp only[hog,Af9]at hgo;split at hgo
  .rename_i gs hgs;split at hgo
   .rename_i b hb;have hsk:∀bb:Bool,Y st.tm gs=A (.p (.one (.sc (.bool bb))))->bb≠want->go=false->g=A (gs,bb)->StepTo cf nt ops o st st':=by
     intro bb h5 h6 h7 h8;subst h7;simp[J]at h2;exact .skip (gs,bb) j want hd h5 hog hgs h6 (by rw[<-h8];exact h2.symm)
    cases b with
    |true=>
     simp at hgo;obtain⟨rfl,rfl⟩:=hgo;cases want with
     |true=>exact hcar (by rintro p hp;simp at hp;subst hp;exact⟨hb,j,N,hog,hgs,rfl⟩) σ rfl
     |false=>exact hsk N hb σ rfl rfl
    |false=>
     simp at hgo;obtain⟨rfl,rfl⟩:=hgo;cases go with
     |false=>exact hsk false hb σ rfl rfl
     |true=>exact hcar (by rintro p hp;simp at hp;subst hp;exact⟨hb,j,_,hog,hgs,rfl⟩) σ rfl
   .rename_i hu;simp at hgo;obtain⟨rfl,rfl⟩:=hgo;simp[J]at h2;exact .skipU gs j want hd hu hog hgs h2.symm
   .simp at hgo
  .simp at hgo
theorem Apu{cx:Cx}(r:RelI G cx ν S st a w){want:Bool}(hg:o.guard=A (j,want))
  (hj:(ops[j]?).bind (·.dst)=A gs) (hu:Y st.tm gs=A (.tup [])):Region.wanted o (yielded ops a.tmps)=false:=by
 have h:=r.slot gs _ hu;have h2:a.tmps[gs]?=C\/a.tmps[gs]?=A (.tuple #[]):=by
  cases hq:a.tmps[gs]? with
  |none=>exact .inl rfl
  |some v=>
   right;rw[r_,hq]at h;simp at h;cases h with
   |tup xs vs hc=>have:=hc.inv_nil;subst this;rfl
 have h3:yielded ops a.tmps j=C:=by unfold yielded;rw[hj];rcases h2 with h2|h2<;>simp[h2]
 simp[Region.wanted,hg,h3]
theorem Akv{cx:Cx}(r:RelI G cx ν S st a w){want:Bool}(hg:o.guard=A (j,want))
  (hj:(ops[j]?).bind (·.dst)=A gs) (hb:Y st.tm gs=A (.p (.one (.sc (.bool b))))):Region.wanted o (yielded ops a.tmps)=(b==want):=by
 have h:=Akn r hb;have h2:a.tmps[gs]?=A (.bool b):=by
  rw[r_]at h;cases hq:a.tmps[gs]? with
  |none=>rw[hq]at h;simp[undef]at h
  |some v=>rw[hq]at h;simp at h;rw[h]
 have h3:yielded ops a.tmps j=A b:=by unfold yielded;rw[hj];simp[h2]
 simp only[Region.wanted,hg,h3];cases b<;>cases want<;>rfl
include ok eqok cfok in
theorem Aca{st':St G}(h:StepTo cf cx.nt ops o st st')(r:Rel G cx st a w){K:Act->World->Prop}{Q:Exit->Act->World->Prop}
  (hK:∀a' w',Rel G cx st' a' w'->K a' w'):if Region.wanted o (yielded ops a.tmps)then o.wp P a w K Q else K (a.put o.dst undef) w:=by
 obtain⟨ν,S,r⟩:=r;cases h with
 |act g out hd hg hn hact hf e=>
  have hw:Region.wanted o (yielded ops a.tmps)=N:=by
   cases g with
   |none=>simp[Region.wanted,hn rfl]
   |some p=>obtain⟨h1,j,want,h2,h3,h4⟩:=hg p rfl;rw[Akv r h2 h3 h1,h4];simp
  rw[if_pos hw];have hfr:∀n∈out.nw,ν n=C:=by
   intro n hn;cases hv:ν n with
   |none=>rfl
   |some x=>exact absurd (r.used n (by simp[hv])) (ZW hf n hn)
  refine Bjj ok eqok cfok (λx s=>Aqe r.heap.gl r.slot x s) r.heap (λb hb=>.inr (d8_ r.size hb)) hfr hact λν' S' w' v hp=>hK _ _ ?_;subst e;have r':RelI G cx ν S (st.note g) a w:=by
   cases g with
   |none=>exact r
   |some p=>exact r.note (hg p rfl).1
  have hhp:(st.note g).hp=st.hp:=by cases g<;>rfl
  exact⟨ν',S',r'.next hd (by rw[hhp];exact hp)⟩
 |skip p j want hd hp hg hj hw e=>
  have hwf:Region.wanted o (yielded ops a.tmps)=false:=by rw[Akv r hg hj hp];cases hb:p.2<;>cases hw':want<;>simp_all
  rw[if_neg (by simp[hwf])];subst e;exact hK _ _ ⟨ν,S,(r.note hp).drop hd⟩
 |skipU gs j want hd hp hg hj e=>have hwf:=Apu r hg hj hp;rw[if_neg (by simp[hwf])];subst e;exact hK _ _ ⟨ν,S,r.drop hd⟩
include ok eqok cfok in
theorem Aa5{ops:Array Oper}{Q:Exit->Act->World->Prop}:∀(l:List Oper) (st st':St G) (a:Act) (w:World),Ui cf cx.nt ops l st (St G) A=A st'->Rel G cx st a w->
  (∀a' w',Rel G cx st' a' w'->Q .normal a' w')->wpList P ops Q l a w
 |[],st,st',a,w,h,r,hQ=>by simp[Ui,J]at h;subst h;exact hQ a w r
 |o::t,st,st',a,w,h,r,hQ=>by
  unfold Ui at h;obtain⟨st1,h1,h2⟩:=(Aob cfok ops o st).spec (aC h);have hs:=Aca ok eqok cfok (Bgx cfok h1) r (K:=wpList P ops Q t) (Q:=Q) λa' w' r'=>Aa5 t st1 st' a' w' h2 r' hQ;unfold wpList;by_cases hw:Region.wanted o (yielded ops a.tmps)=N
  .rw[if_pos hw]at hs|-;exact .inl hs
  .rw[if_neg hw]at hs|-;exact hs
end
end Go.Ab
namespace Go.Ab
variable{G:Sig}
variable{nm:List (Nat×Option Nat)}{h:Nat->Option (W G.T)}{v:Value}{fz:List Nat}{c:Cv G.T}{s:CSh}
def Yf{n t:Nat}{l:List (G.T t)}(hr:Ye h n t=A l):h n=A (.row t l):=by
 unfold Ye at hr;split at hr
 .rename_i t' l' hn;obtain⟨rfl,rfl⟩:=Xr hr;exact hn
 .simp at hr
def At4{t t':Nat}{x:G.T t}{x':G.T t'}(h:At3 G t t' x=A x'):∃e:t=t',e▸x=x':=by
 unfold At3 at h;split at h
 .rename_i e;simp at h;exact⟨e,h⟩
 .simp at h
def Aii:∀{a b:List (Nat×Nat)},XD a b=N->a=b
 |[],[],_=>rfl
 |[],_::_,h=>by simp[XD]at h
 |_::_,[],h=>by simp[XD]at h
 |(x,y)::s,(u,v)::t,h=>by simp only[XD,e_]at h;rw[Aii h.2];have h1:x=u:=AA.1 h.1.1;have h2:y=v:=AA.1 h.1.2;rw[h1,h2]
def Acy{l:List Nat}:∀{m:List Nat},WC l m=N->∀n∈m,n∈l
 |[],_,_,h=>by simp at h
 |k::t,h,n,hn=>by
  simp only[WC,e_]at h;rcases v_.1 hn with rfl|hn
  .exact(Fw l n).1 h.1
  .exact Acy h.2 n hn
def Aj3:∀{p:List (Nat×Nat)}{q:Nat×Nat},q∈p->q.1∈SO p
 |x::t,q,h=>by
  rcases v_.1 h with rfl|h
  .simp[SO]
  .simp[SO,Aj3 h]
structure Ren(ν ν':Nat->Option Value)(S S':Nat->Prop)(h:Nat->Option (Blk G.T))(H:List Nat)(nm:List (Nat×Option Nat))(fz:List Nat)(sh:List (Nat×Nat)):Prop where
 own:∀p∈nm,ν' p.1=match p.2 with|some n=>ν n|none=>some (.slice none 0 0)
 keep:∀n∈H,ν' n=ν n
 frz:∀n∈fz,h n≠none->∀x b,ν n=some x->AC x=some b->S' b
 sub:∀b,S b->S' b
 shr:∀p∈sh,ν' p.1=ν p.2
def Yi{m n:Nat}:∀{l:List (Nat×Option Nat)},Ahi m n l=N->(m,A n)∈l
 |[],h=>by cases h
 |(k,A j)::t,h=>by
  simp only[Ahi,b0_,e_]at h;rcases h with⟨h1,h2⟩|h
  .rw[AA.1 h1,AA.1 h2];exact W_ ..
  .exact Q_ _ (Yi h)
 |(_,C)::t,h=>Q_ _ (Yi (l:=t) h)
def Aa7{nm:List (Nat×Option Nat)}:∀{l:List (Nat×Nat)},Ae0 nm l=N->∀p∈l,(p.1,A p.2)∈nm
 |[],_,p,hp=>by cases hp
 |q::t,h,p,hp=>by
  simp only[Ae0,e_]at h;rcases v_.1 hp with rfl|hp
  .exact Yi h.1
  .exact Aa7 h.2 p hp
section
variable{ν ν':Nat->Option Value}{S S' B:Nat->Prop}{h:Nat->Option (W G.T)}{H:List Nat}{w:World}
def Ren.left{a b:List (Nat×Option Nat)}{c d:List Nat}{e f:List (Nat×Nat)}(r:Ren ν ν' S S' h H (a++b) (c++d) (e++f)):Ren ν ν' S S' h H a c e:=⟨λp hp=>r.own p (by simp[hp]),r.keep,λn hn=>r.frz n (by simp[hn]),r.sub,λp hp=>r.shr p (by simp[hp])⟩
def Ren.right{a b:List (Nat×Option Nat)}{c d:List Nat}{e f:List (Nat×Nat)}(r:Ren ν ν' S S' h H (a++b) (c++d) (e++f)):Ren ν ν' S S' h H b d f:=⟨λp hp=>r.own p (by simp[hp]),r.keep,λn hn=>r.frz n (by simp[hn]),r.sub,λp hp=>r.shr p (by simp[hp])⟩
def Ren.rptr{sh:List (Nat×Nat)}(r:Ren ν ν' S S' h H nm fz sh){p:Nat×Nat}(hp:p.1∈H)(hv:RPtr ν p v):RPtr ν' p v:=by obtain⟨b,h1,h2⟩:=hv;exact⟨b,by rw[r.keep _ hp];exact h1,h2⟩
def Ren.rptrs{sh:List (Nat×Nat)}(r:Ren ν ν' S S' h H nm fz sh){p:List (Nat×Nat)}(hp:WC H (SO p)=N){vs:List Value}(hv:F2 (RPtr ν) p vs):F2 (RPtr ν') p vs:=⟨hv.1,λi x y hx hy=>r.rptr (Acy hp _ (Aj3 (p_ hx))) (hv.2 i x y hx hy)⟩
def RowsOK(G:Sig)(ν':Nat->Option Value)(S':Nat->Prop)(w:World)(h:Nat->Option (W G.T))(nm:List (Nat×Option Nat))(bl:List (Nat×W G.T)):Prop:=(∀p∈bl,Rb G ν' S' w.heap p.1 p.2)/\AY bl=CB nm/\∀p∈nm,∀n,p.2=A n->h n≠C
def Fi(a b:List (Nat×W G.T)):AY (a++b)=AY a++AY b:=by induction a with|nil=>rfl|cons x t ih=>simp[AY,ih]
def TY(a b:List (Nat×Option Nat)):CB (a++b)=CB a++CB b:=by induction a with|nil=>rfl|cons x t ih=>simp[CB,ih]
def RowsOK.append{nm':List (Nat×Option Nat)}{bl bl':List (Nat×W G.T)}(r:RowsOK G ν' S' w h nm bl)(r':RowsOK G ν' S' w h nm' bl'):RowsOK G ν' S' w h (nm++nm') (bl++bl'):=⟨λp hp=>(u_.1 hp).elim (r.1 p) (r'.1 p),by rw[Fi,TY,r.2.1,r'.2.1],λp hp=>(u_.1 hp).elim (r.2.2 p) (r'.2.2 p)⟩
def RowsOK.nil:RowsOK G ν' S' w h [] []:=⟨σ,rfl,σ⟩
def CSh.take_sound(hr:HRel G ν S B h w){t:Tk (s.T G)}(ht:s.take h c=A t)(hf:s.fix H=N)(rn:Ren ν ν' S S' h H t.nm t.fz t.sh)(hc:Rc G ν S w.heap c v):
  Rc G ν' S' w.heap (s.give t.x) v/\RowsOK G ν' S' w h t.nm (s.blk t.x):=by
 have rd:∀{c:Cv G.T}{v:Value},Rd G S w.heap c v->Rd G S' w.heap c v:=λr=>r.mono rn.sub λ_ _=>rfl;cases s with
 |int k=>
  cases c with
  |sc u=>
   cases u with
   |int k' n=>
    simp only[U]at ht;cases hk:Dd k k' with
    |false=>rw[hk]at ht;simp at ht
    |true=>rw[hk]at ht;simp[tk0]at ht;subst ht;rw[Fv hk];exact⟨rd hc,.nil⟩
   |_=>simp[U]at ht
  |_=>simp[U]at ht
 |bool=>
  cases c with
  |sc u=>cases u<;>simp[U,tk0]at ht;subst ht;exact⟨rd hc,.nil⟩
  |_=>simp[U]at ht
 |str=>
  cases c with
  |sc u=>cases u<;>simp[U,tk0]at ht;subst ht;exact⟨rd hc,.nil⟩
  |_=>simp[U]at ht
 |flt k=>
  cases c with
  |sc u=>
   cases u with
   |float k' n=>
    simp only[U]at ht;cases hk:Pd k k' with
    |false=>rw[hk]at ht;simp at ht
    |true=>rw[hk]at ht;simp[tk0]at ht;subst ht;rw[Aih hk];exact⟨rd hc,.nil⟩
   |_=>simp[U]at ht
  |_=>simp[U]at ht
 |own m t'=>
  cases c with
  |own n=>
   simp only[U]at ht;split at ht
   .rename_i l hl;simp at ht;subst ht;have hn:=Yf hl;have ho:=rn.own (m,A n) σ;simp only at ho;obtain⟨av,len,cap,h1,h2⟩:=hc;refine⟨⟨av,len,cap,ho.trans h1,h2⟩,λp hp=>?_,rfl,λp hp n' hp'=>?_⟩
    .simp[CSh.blk]at hp;subst hp;rcases hr.blk n _ hn with⟨g1,g2⟩|⟨b,cap',cs,te,g1,g2,g3,g4,g5,g6⟩
     .exact .inl ⟨ho.trans g1,g2⟩
     .refine .inr ⟨b,cap',cs,te,ho.trans g1,g2,g3,g4,λi j x cv hx hcv=>?_,g6⟩;obtain⟨u,hu,hrd⟩:=g5 i j x cv hx hcv;exact⟨u,hu,rd hrd⟩
    .simp at hp;subst hp;simp at hp';subst hp';rw[hn];simp
   .simp at ht
  |sc u=>
   simp only[U]at ht;cases hk:Rl u with
   |false=>rw[hk]at ht;simp at ht
   |true=>
    rw[hk]at ht;simp at ht;subst ht;have hu:=Aab hk;subst hu;have ho:=rn.own (m,C) σ;simp only at ho;have hv:v=.slice C 0 0:=by have hc:Rd G S w.heap (.sc (.slice C 0 0)) v:=hc;cases hc;rfl
    subst hv;refine⟨⟨C,0,0,ho,rfl⟩,λp hp=>?_,rfl,λp hp n' hp'=>?_⟩
    .simp[CSh.blk]at hp;subst hp;exact .inl ⟨ho,rfl⟩
    .simp at hp;subst hp;simp at hp'
  |_=>simp[U]at ht
 |sh m=>
  cases c with
  |own n=>simp only[U]at ht;simp at ht;subst ht;obtain⟨av,len,cap,h1,h2⟩:=hc;exact⟨⟨av,len,cap,(rn.shr (m,n) σ).trans h1,h2⟩,.nil⟩
  |_=>simp[U]at ht
 |ro t'=>
  cases c with
  |ro t'' l=>
   simp only[U]at ht;split at ht
   .rename_i l' hl;obtain⟨rfl,rfl⟩:=Xr hl;simp[tk0]at ht;subst ht;exact⟨rd hc,.nil⟩
   .simp at ht
  |own n=>
   simp only[U]at ht;split at ht
   .rename_i l hl;simp at ht;subst ht;have hn:=Yf hl;refine⟨?_,.nil⟩;obtain⟨av,len,cap,hν,rfl⟩:=hc;rcases hr.blk n _ hn with⟨h1,h2⟩|⟨b,cap',c,te,h1,h2,h3,h4,h5⟩
    .rw[hν]at h1;simp at h1;obtain⟨rfl,rfl,rfl⟩:=h1;simp only[CSh.give];rw[h2];exact .nil _ _ _
    .rw[hν]at h1;simp at h1;obtain⟨rfl,rfl,rfl⟩:=h1;have hSb:S' b:=rn.frz n σ (by rw[hn];simp) _ b hν rfl;show Rd G S' w.heap (.ro t' l) _;refine .ro t' l b 0 cap c te (0,0) (λi j=>c.getD (i*G.sz t'+j) undef) hSb h2 (.inl h5.2.1) h3 (λi j hi hj=>?_) (λi j x cv hx hcv=>?_)
     .have hm:(i+1)*G.sz t'<=cap*G.sz t':=B_ _ ω;rw[a0_]at hm;have hlt:i*G.sz t'+j<c.size:=ω;rw[k_];simp[hlt]
     .obtain⟨v,hv,hrd⟩:=h5.1 i j x cv hx hcv
      have:c.getD (i*G.sz t'+j) undef=v:=by rw[r_,hv];rfl
      rw[this];exact rd hrd
   .simp at ht
  |sc u=>
   simp only[U]at ht;cases hk:Rl u with
   |false=>rw[hk]at ht;simp at ht
   |true=>
    rw[hk]at ht;simp[tk0]at ht;subst ht;have hu:=Aab hk;subst hu;have hv:v=.slice C 0 0:=by have hc:Rd G S w.heap (.sc (.slice C 0 0)) v:=hc;cases hc;rfl
    subst hv;exact⟨Rd.nil _ _ _,.nil⟩
  |_=>simp[U]at ht
 |rp t' off=>
  cases c with
  |rp t'' x off'=>
   simp only[U]at ht;cases hk:aD off off' with
   |false=>rw[hk]at ht;simp at ht
   |true=>
    rw[hk,d_]at ht;have e:=AA.1 hk;subst e;split at ht
    .rename_i x' hx;obtain⟨rfl,rfl⟩:=At4 hx;simp[tk0]at ht;subst ht;exact⟨rd hc,.nil⟩
    .simp at ht
  |_=>simp[U]at ht
 |ptr n off=>
  cases c with
  |ptr n' off'=>
   simp only[U]at ht;cases hk:(aD n n'&&aD off off')with
   |false=>rw[hk]at ht;simp at ht
   |true=>rw[hk,d_]at ht;simp only[e_]at hk;have e1:n=n':=AA.1 hk.1;have e2:off=off':=AA.1 hk.2;subst e1;subst e2;simp[tk0]at ht;subst ht;exact⟨rn.rptr ((Fw H n).1 hf) hc,.nil⟩
  |_=>simp[U]at ht
 |nili=>
  cases c with
  |sc v'=>
   simp only[U]at ht;cases hk:An6 v' with
   |false=>rw[hk]at ht;simp at ht
   |true=>
    rw[hk,d_]at ht;simp[tk0]at ht;subst ht;have hc':Rd G _ _ (.sc v') _:=hc;cases hc';refine⟨?_,.nil⟩;unfold An6 at hk;split at hk
    .exact Rd.sc _ rfl
    .simp at hk
  |_=>simp[U]at ht
 |nilp=>
  cases c with
  |sc v'=>
   simp only[U]at ht;cases hk:An7 v' with
   |false=>rw[hk]at ht;simp at ht
   |true=>
    rw[hk,d_]at ht;simp[tk0]at ht;subst ht;have hc':Rd G _ _ (.sc v') _:=hc;cases hc';refine⟨?_,.nil⟩;unfold An7 at hk;split at hk
    .exact Rd.sc _ rfl
    .simp at hk
  |_=>simp[U]at ht
 |lit k n=>
  cases c with
  |sc v'=>
   simp only[U]at ht;cases hk:Aus k n v' with
   |false=>rw[hk]at ht;simp at ht
   |true=>
    rw[hk,d_]at ht;simp[tk0]at ht;subst ht;have hc':Rd G _ _ (.sc v') _:=hc;cases hc';refine⟨?_,.nil⟩;unfold Aus at hk;split at hk
    .rename_i k' m _;simp only[e_,R_]at hk;have e:k=k':=by have h:=hk.1;cases k<;>cases k'<;>first|rfl|(simp[Dd]at h)
     rw[e,hk.2];exact Rd.sc _ rfl
    .simp at hk
  |_=>simp[U]at ht
 |np n tt=>
  cases c with
  |np n' t'=>
   simp only[U]at ht;cases hk:(aD n n'&&aD tt t')with
   |false=>rw[hk]at ht;simp at ht
   |true=>rw[hk,d_]at ht;simp only[e_]at hk;have e1:n=n':=AA.1 hk.1;have e2:tt=t':=AA.1 hk.2;subst e1;subst e2;simp[tk0]at ht;subst ht;exact⟨hc.imp (λh=>h) (rn.rptr ((Fw H n).1 hf)),.nil⟩
  |_=>simp[U]at ht
 |sa n off len=>
  cases c with
  |sa n' off' len'=>
   simp only[U]at ht;cases hk:(aD n n'&&(aD off off'&&aD len len'))with
   |false=>rw[hk]at ht;simp at ht
   |true=>rw[hk,d_]at ht;simp only[e_]at hk;have e1:n=n':=AA.1 hk.1;have e2:off=off':=AA.1 hk.2.1;have e3:len=len':=AA.1 hk.2.2;subst e1;subst e2;subst e3;simp[tk0]at ht;subst ht;obtain⟨b,h1,h2⟩:=hc;obtain⟨b',g1,g2⟩:=rn.rptr ((Fw H n).1 hf) (p:=(n,0)) ⟨b,h1,rfl⟩;cases g2;exact⟨⟨b,g1,h2⟩,.nil⟩
  |_=>simp[U]at ht
 |clo f p q=>
  cases c with
  |clo f' p' q'=>
   simp only[U]at ht;cases hk:(aD f f'&&XD p p'&&XD q q')with
   |false=>rw[hk]at ht;simp at ht
   |true=>rw[hk,d_]at ht;simp only[e_]at hk;have e1:f=f':=AA.1 hk.1.1;have e2:=Aii hk.1.2;have e3:=Aii hk.2;subst e1;subst e2;subst e3;simp[tk0]at ht;subst ht;simp only[CSh.fix,e_]at hf;obtain⟨vp,vq,h1,h2,h3⟩:=hc;exact⟨⟨vp,vq,h1,rn.rptrs hf.1 h2,rn.rptrs hf.2 h3⟩,.nil⟩
  |_=>simp[U]at ht
def Wd(hr:HRel G ν S B h w):∀(s:List CSh) (cs:List (Cv G.T)) (t:Tk (TL G s)),GE h s cs=A t->s.all (CSh.fix H)=N->Ren ν ν' S S' h H t.nm t.fz t.sh->∀vs:List Value,F2 (Rc G ν S w.heap) cs vs->
  F2 (Rc G ν' S' w.heap) (Cg s t.x) vs/\RowsOK G ν' S' w h t.nm (Ad1 s t.x)
 |[],[],t,ht,_,_,vs,hc=>by simp[GE,tk0]at ht;subst ht;exact⟨by rw[hc.inv_nil];exact .nil,.nil⟩
 |[],_::_,_,ht,_,_,_,_=>by simp[GE]at ht
 |_::_,[],_,ht,_,_,_,_=>by simp[GE]at ht
 |s::ss,c::cs,t,ht,hf,rn,vs,hc=>by
  simp only[GE]at ht;split at ht
  .rename_i a b ha hb;simp at ht;subst ht;simp only[U_,e_]at hf;obtain⟨v,vs',rfl,hv,hvs⟩:=hc.inv;have h1:=CSh.take_sound hr ha hf.1 rn.left hv;have h2:=Wd hr ss cs b hb hf.2 rn.right vs' hvs;exact⟨h2.1.cons h1.1,h1.2.append h2.2⟩
  .simp at ht
def PSh.take_sound(hr:HRel G ν S B h w){s:PSh}{c:Pv G.T}{t:Tk (s.T G)}(ht:s.take h c=A t)(hf:s.fix H=N)(rn:Ren ν ν' S S' h H t.nm t.fz t.sh)(hc:Rp G ν S w.heap c v):
  Rp G ν' S' w.heap (s.give t.x) v/\RowsOK G ν' S' w h t.nm (s.blk t.x):=by
 cases s with
 |one s=>
  cases hc with
  |one c v hc=>obtain⟨x,nm,fz,sh⟩:=t;have h1:=CSh.take_sound (ν':=ν') (S':=S') (H:=H) hr (s:=s) (t:=⟨x,nm,fz,sh⟩) ht hf rn hc;exact⟨Rp.one (s.give x) v h1.1,h1.2⟩
  |agg cs vs hc=>exact absurd (show(C:Option (Tk (s.T G)))=A t from ht) σ
 |agg ss=>
  cases hc with
  |one c v hc=>exact absurd (show(C:Option (Tk (TL G ss)))=A t from ht) σ
  |agg cs vs hc=>obtain⟨x,nm,fz,sh⟩:=t;have h1:=Wd (ν':=ν') (S':=S') (H:=H) hr ss cs ⟨x,nm,fz,sh⟩ ht hf rn vs hc;exact⟨Rp.agg (Cg ss x) vs h1.1,h1.2⟩
def Uq(hr:HRel G ν S B h w){tm:List (Nat×Sv G.T)}{f:Nat->Value}(hs:∀k s,Y tm k=A s->Rs G ν S w.heap s (f k)):∀(s:List (Nat×PSh)) (t:Tk (TmT G s)),Gy h tm s=A t->s.all (λp=>p.2.fix H)=N->
  Ren ν ν' S S' h H t.nm t.fz t.sh->(∀k v,Y (JQ s t.x) k=A v->Rs G ν' S' w.heap v (f k))/\RowsOK G ν' S' w h t.nm (MU s t.x)
 |[],t,ht,_,_=>by simp[Gy,tk0]at ht;subst ht;exact⟨λk v h=>by simp[JQ,Y]at h,.nil⟩
 |p::ss,t,ht,hf,rn=>by
  simp only[Gy]at ht;split at ht
  .rename_i c hc;split at ht
   .rename_i a b ha hb;simp at ht;subst ht;simp only[U_,e_]at hf;have hrs:=hs p.1 _ hc;generalize hfk:f p.1=v0 at hrs;cases hrs with
    |p _ _ hrp=>
    obtain⟨g1,g2⟩:=PSh.take_sound hr ha hf.1 rn.left hrp;obtain⟨g3,g4⟩:=Uq hr hs ss b hb hf.2 rn.right;refine⟨λk v hk=>?_,g2.append g4⟩;simp only[JQ,Y,Bf]at hk;by_cases e:p.1=k
    .rw[if_pos e]at hk;simp at hk;subst hk;rw[<-e,hfk];exact .p _ _ g1
    .rw[if_neg e]at hk;exact g3 k v hk
   .simp at ht
  .simp at ht
def Bdv{h:Nat->Option (W G.T)}{a:Tk (s.T G)}(ht:s.take h c=A a){m t:Nat}(hm:s.give a.x=.np m t):c=.np m t:=by
 cases s with
 |np n tt=>
  have e:(CSh.np n tt).give a.x=(.np n tt:Cv G.T):=rfl;rw[e]at hm;cases hm;cases c with
  |np n' t'=>
   simp only[U]at ht;cases hk:(aD m n'&&aD t t')with
   |false=>rw[hk]at ht;simp at ht
   |true=>simp only[e_]at hk;rw[<-AA.1 hk.1,<-AA.1 hk.2]
  |_=>simp[U]at ht
 |_=>cases hm
def Apq(h:Nat->Option (W G.T)):∀(s:List CSh) (cs:List (Cv G.T)) (a:Tk (TL G s)),GE h s cs=A a->∀{m t:Nat},Cv.np m t∈Cg s a.x->Cv.np m t∈cs
 |[],[],a,_,m,t,hm=>by simp[Cg]at hm
 |[],_::_,a,ht,_,_,_=>by simp[GE]at ht
 |_::_,[],a,ht,_,_,_=>by simp[GE]at ht
 |s::ss,c::cs,a,ht,m,t,hm=>by
  simp only[GE]at ht;split at ht
  .rename_i x y hx hy;cases ht;simp only[Cg,v_]at hm;rcases hm with hm|hm
   .rw[Bdv hx hm.symm];simp
   .exact Q_ _ (Apq h ss cs y hy hm)
  .simp at ht
def Uo(hr:HRel G ν S B h w):∀(s:List (Nat×List CSh)) (t:Tk (HpT G s)),II h s=A t->(∀n∈As s,n∈H)->s.all (λp=>p.2.all (CSh.fix H))=N->
  Ren ν ν' S S' h H t.nm t.fz t.sh->(∀p∈Gv s t.x,Rb G ν' S' w.heap p.1 p.2)/\AY (Gv s t.x)=As s/\(∀n∈As s,∃cs,h n=A (.cells cs))/\RowsOK G ν' S' w h t.nm (SE s t.x)
 |[],t,ht,_,_,_=>by simp[II,tk0]at ht;subst ht;exact⟨by simp[Gv],rfl,by simp[As],.nil⟩
 |p::ss,t,ht,hk,hf,rn=>by
  simp only[II]at ht;split at ht
  .rename_i cs hc;split at ht
   .rename_i a b ha hb;simp at ht;subst ht;simp only[U_,e_]at hf;obtain⟨bb,c,te,q1,q2,q3,q4⟩:=hr.blk p.1 _ hc;obtain⟨g1,g2⟩:=Wd hr p.2 cs a ha hf.1 rn.left c.toList q3;obtain⟨g3,g5,g6,g4⟩:=Uo hr ss b hb (λn hn=>hk n (by simp[As,hn])) hf.2 rn.right;refine⟨λq hq=>?_,by simp only[Gv,AY,As,g5],λn hn=>?_,g2.append g4⟩
    .simp only[Gv,v_]at hq;rcases hq with rfl|hq
     .exact⟨bb,c,te,by rw[rn.keep _ (hk _ (by simp[As]))];exact q1,q2,g1,λm t hm=>q4 m t (Apq h p.2 cs a ha hm)⟩
     .exact g3 q hq
    .simp only[As,v_]at hn;rcases hn with rfl|hn
     .exact⟨cs,hc⟩
     .exact g6 n hn
   .simp at ht
  .simp at ht
end
end Go.Ab
namespace Go.Ab
variable{G:Sig}
variable{ρ:List (Nat×Option Nat)}{m:M (Ex×St G)}{j:Option (List (Ex×Spec))}{E:List (Ex×Spec)}{st st':St G}{e:Ex}{n:Nat}
def HK:∀{l:List Nat},Gx l=N->l.Nodup
 |[],_=>by simp
 |n::t,h=>by simp only[Gx,e_,a5_]at h;refine List.nodup_cons.2 ⟨λhm=>?_,HK h.2⟩;rw[(Fw t n).2 hm]at h;simp at h
def Xx:∀{a b:List Nat},Xw a b=N->∀n∈a,n∉b
 |[],_,_,n,h=>by simp at h
 |m::t,b,h,n,hn=>by
  simp only[Xw,e_,a5_]at h;rcases v_.1 hn with rfl|hn
  .intro hm;rw[(Fw b n).2 hm]at h;simp at h
  .exact Xx h.2 n hn
def Xj:∀{a:List Nat},Xi a=N->∀n∈a,n<lo
 |[],_,n,h=>by simp at h
 |m::t,h,n,hn=>by
  simp only[Xi,e_]at h;rcases v_.1 hn with rfl|hn
  .have:=h.1;simp[aF]at this;omega
  .exact Xj h.2 n hn
def Afh{us:List Nat}:∀{a:List Nat},Afg us a=N->∀n∈a,lo<=n->n∈us
 |[],_,n,h,_=>by simp at h
 |m::t,h,n,hn,hl=>by
  simp only[Afg,e_,b0_]at h;rcases v_.1 hn with rfl|hn
  .rcases h.1 with h1|h1
   .simp[aF]at h1;omega
   .exact(Fw us n).1 h1
  .exact Afh h.2 n hn hl
def Rn{p:Nat×Option Nat}(h:p∈ρ):p.1∈CB ρ:=by
 induction ρ with
 |nil=>simp at h
 |cons q t ih=>
  rcases v_.1 h with rfl|h
  .simp[CB]
  .simp[CB,ih h]
def HB{m:Nat}(h:(m,A n)∈ρ):n∈CT ρ:=by
 induction ρ with
 |nil=>simp at h
 |cons q t ih=>
  obtain⟨k,o⟩:=q;rcases v_.1 h with h1|h1
  .simp at h1;obtain⟨rfl,rfl⟩:=h1;simp[CT]
  .have:=ih h1
   cases o<;>simp[CT,this]
def Ajy(h:n∈CB ρ):∃o,(n,o)∈ρ:=by
 induction ρ with
 |nil=>simp[CB]at h
 |cons q t ih=>
  simp only[CB,v_]at h;rcases h with rfl|h
  .exact⟨q.2,σ⟩
  .obtain⟨o,ho⟩:=ih h;exact⟨o,by simp[ho]⟩
def IB{α:Type}{l:List (Nat×α)}{x:α}(h:Y l n=A x):(n,x)∈l:=by
 induction l with
 |nil=>simp[Y]at h
 |cons q t ih=>
  obtain⟨k,v⟩:=q;simp only[Y,Bf]at h;by_cases e:k=n
  .subst e;simp at h;subst h;simp
  .rw[if_neg e]at h;simp[ih h]
def Ar8(hn:(CB ρ).Nodup){o:Option Nat}(h:(n,o)∈ρ):Y ρ n=A o:=by
 induction ρ with
 |nil=>simp at h
 |cons q t ih=>
  obtain⟨k,v⟩:=q;simp only[CB,List.nodup_cons]at hn;simp only[Y,Bf];rcases v_.1 h with h|h
  .simp at h;obtain⟨rfl,rfl⟩:=h;simp
  .have:k≠n:=λe=>hn.1 (by rw[e];exact Rn h)
   rw[if_neg this];exact ih hn.2 h
def Aoo(hn:(CT ρ).Nodup){m m':Nat}(h:(m,A n)∈ρ)(h':(m',A n)∈ρ):m=m':=by
 induction ρ with
 |nil=>simp at h
 |cons q t ih=>
  obtain⟨k,v⟩:=q;have hn':(CT t).Nodup/\(∀j,v=A j->j∉CT t):=by
   cases v with
   |none=>exact⟨hn,σ⟩
   |some j=>simp only[CT,List.nodup_cons]at hn;exact⟨hn.2,λi hi=>by simp at hi;subst hi;exact hn.1⟩
  rcases v_.1 h with h1|h1<;>rcases v_.1 h' with h2|h2
  .simp at h1 h2;rw[h1.1,h2.1]
  .simp at h1;obtain⟨rfl,rfl⟩:=h1;exact absurd (HB h2) (hn'.2 n rfl)
  .simp at h2;obtain⟨rfl,rfl⟩:=h2;exact absurd (HB h1) (hn'.2 n rfl)
  .exact ih hn'.1 h1 h2
def Vg{l:List (Nat×W G.T)}{p:Nat×W G.T}(h:p∈l):p.1∈AY l:=by
 induction l with
 |nil=>simp at h
 |cons q t ih=>
  rcases v_.1 h with rfl|h
  .simp[AY]
  .simp[AY,ih h]
def Spec.take_rel{cx:Cx}{s:Spec}{x:s.T G}(ht:s.take st=A x){a:Act}{w:World}(hrel:Rel G cx st a w)(hnu:∀n y,cx.nu0 n=A y->lo<=n):Rel G cx (s.mk' x) a w:=by
 obtain⟨ν,S,r⟩:=hrel;unfold Spec.take at ht;split at ht
 .rename_i ta tb hta htb;generalize hc:(s.tm.all (λp=>p.2.fix (As s.hp))&&s.hp.all (λp=>p.2.all (CSh.fix (As s.hp)))&&
   (Gx (CB (ta.nm++tb.nm)++As s.hp)&&Xi (CB (ta.nm++tb.nm))&&Gx (CT (ta.nm++tb.nm)++As s.hp)&&Xw (CT (ta.nm++tb.nm)++As s.hp) (ta.fz++tb.fz)&&(Ae0 (ta.nm++tb.nm) (ta.sh++tb.sh)&&Afg s.us st.us)))=c at ht
  cases c with
  |false=>simp at ht
  |true=>
   have ht:(ta.x,tb.x)=x:=D_ ht;subst ht;simp only[e_]at hc;obtain⟨⟨c1,c2⟩,⟨⟨⟨c3,c4⟩,c5⟩,c6⟩,c8,c7⟩:=hc;generalize hρ:ta.nm++tb.nm=ρ at c3 c4 c5 c6 c8;generalize hsh:ta.sh++tb.sh=sh at c8;generalize hfz:ta.fz++tb.fz=fz at c6;have d3:=List.nodup_append.1 (HK c3);have d5:=List.nodup_append.1 (HK c5);have d4:=Xj c4;have d6:=Xx c6;have d7:=Afh c7
   let ν':Nat->Option Value:=λn=>match Y ρ n with
    |some (A m)=>ν m
    |some C=>A (.slice C 0 0)
    |none=>if n∈As s.hp\/lo<=n then ν n else C
   let S':Nat->Prop:=λb=>S b\/∃n∈fz,Y st.hp n≠C/\∃y,ν n=A y/\AC y=A b
   have hown:∀p∈ρ,ν' p.1=match p.2 with|some n=>ν n|none=>A (.slice C 0 0):=by intro p hp;simp only[ν',Ar8 d3.1 hp];cases p.2<;>rfl
   have hno:∀n,n∉CB ρ->Y ρ n=C:=by
    intro n hn;cases hg:Y ρ n with
    |none=>rfl
    |some o=>exact absurd (Rn (IB hg)) hn
   have hkeep:∀n∈As s.hp,ν' n=ν n:=by
    intro n hn
    have:Y ρ n=C:=hno n λhm=>d3.2.2 n hm n hn rfl
    simp only[ν',this];rw[if_pos (.inl hn)]
   have rn:Ren ν ν' S S' (Y st.hp) (As s.hp) ρ fz sh:=⟨hown,hkeep,λn hn hh y b hy hb=>.inr ⟨n,hn,hh,y,hy,hb⟩,λb hb=>.inl hb,λp hp=>hown _ (Aa7 c8 p hp)⟩
   rw[<-hρ,<-hfz,<-hsh]at rn;obtain⟨g1,g2⟩:=Uq r.heap r.slot s.tm ta hta c1 rn.left;obtain⟨g3,g4,g5,g6⟩:=Uo r.heap s.hp tb htb (λ_ h=>h) c2 rn.right;have hkeys:AY (MU s.tm ta.x++(SE s.hp tb.x++Gv s.hp tb.x))=CB ρ++As s.hp:=by rw[Fi,Fi,g2.2.1,g6.2.1,g4,<-hρ,TY,M_]
   have hsrc:∀n y b,Y (MU s.tm ta.x++(SE s.hp tb.x++Gv s.hp tb.x)) n≠C->ν' n=A y->AC y=A b->
     ∃m,ν m=A y/\Y st.hp m≠C/\((n,A m)∈ρ\/(n∈As s.hp/\m=n)):=by
    intro n y b hn hy hb;obtain⟨k,hk⟩:=Option.ne_none_iff_exists'.1 hn;have hm:=Vg (IB hk);rw[hkeys]at hm;rcases u_.1 hm with hm|hm
    .obtain⟨o,ho⟩:=Ajy hm;have h1:=hown _ ho;simp only at h1;cases o with
     |none=>rw[hy]at h1;simp at h1;subst h1;simp[AC]at hb
     |some m=>
      refine⟨m,by rw[<-hy,h1],?_,.inl ho⟩;rw[<-hρ]at ho;rcases u_.1 ho with ho|ho
      .exact g2.2.2 _ ho m rfl
      .exact g6.2.2 _ ho m rfl
    .refine⟨n,by rw[<-hkeep n hm];exact hy,?_,.inr ⟨hm,rfl⟩⟩;obtain⟨cs,hcs⟩:=g5 n hm;rw[hcs];simp
   refine⟨ν',S',⟨g1,⟨λn k hk=>?_,λn m y z b h1 h2 h3 h4 h5 h6=>?_,λn y b h1 h2 h3=>?_,λb hb=>?_,r.heap.gl.mono (λ_ h=>.inl h) λ_ _=>rfl⟩,λn hn=>?_,r.defers,r.nt,r.size,r.frame,r.env,λb hb=>?_,λb hb=>.inl (r.keep b hb),λn y hy=>?_⟩⟩
   .have hm:=IB hk;rcases u_.1 hm with hm|hm
    .exact g2.1 _ hm
    .rcases u_.1 hm with hm|hm
     .exact g6.1 _ hm
     .exact g3 _ hm
   .obtain⟨n1,q1,q2,q3⟩:=hsrc n y b h1 h3 h5;obtain⟨n2,p1,p2,p3⟩:=hsrc m z b h2 h4 h6;have e:=r.heap.apart n1 n2 y z b q2 p2 q1 p1 h5 h6;subst e;rcases q3 with q3|⟨q3,q4⟩<;>rcases p3 with p3|⟨p3,p4⟩
    .exact Aoo d5.1 q3 p3
    .exact absurd rfl (d5.2.2 n1 (HB q3) n1 (by rw[p4];exact p3))
    .exact absurd rfl (d5.2.2 n1 (HB p3) n1 (by rw[q4];exact q3))
    .exact q4.symm.trans p4
   .obtain⟨n1,q1,q2,q3⟩:=hsrc n y b h1 h2 h3;obtain⟨o1,o2⟩:=r.heap.own n1 y b q2 q1 h3;refine⟨?_,o2⟩;rintro(hS|⟨m,hm,hmh,z,hz,hbz⟩)
    .exact o1 hS
    .have e:=r.heap.apart n1 m y z b q2 hmh q1 hz h3 hbz;subst e;refine d6 n1 (u_.2 ?_) hm;rcases q3 with q3|⟨q3,q4⟩
     .exact .inl (HB q3)
     .exact .inr (by rw[q4];exact q3)
   .rcases hb with hb|⟨m,hm,hmh,z,hz,hbz⟩
    .exact r.heap.stay b hb
    .exact r.heap.lt hmh hz hbz
   .show n∈AY _++s.us;rw[hkeys];cases hg:Y ρ n with
    |some o=>simp[Rn (IB hg)]
    |none=>
     simp only[ν',hg]at hn;by_cases hc:n∈As s.hp\/lo<=n
     .rw[if_pos hc]at hn;rcases hc with hc|hc
      .simp[hc]
      .have:=d7 n (r.used n hn) hc
       simp[this]
     .rw[if_neg hc]at hn;simp at hn
   .rcases hb with hb|⟨m,hm,hmh,z,hz,hbz⟩
    .exact r.sub b hb
    .exact .inr (r.heap.own m z b hmh hz hbz).2
   .have h1:=r.names n y hy;have h2:=hnu n y hy
    have:Y ρ n=C:=hno n λhm=>by have:=d4 n hm;omega
    simp only[ν',this];rw[if_pos (.inr h2)];exact h1
 .simp at ht
def Art{e':Ex}(h:ZU e e'=N):e=e':=by cases e<;>cases e'<;>simp[ZU]at h<;>first|rfl|(rw[h])
def Akr{p:Ex×Spec}{y:p.2.T G}(h:GD [p] e st=A y):e=p.1/\p.2.take st=A y:=by
 have h:(bif ZU e p.1 then p.2.take st else C)=A y:=h;generalize he:ZU e p.1=b at h;cases b with
 |false=>simp at h
 |true=>exact⟨Art he,h⟩
def Aks{p q:Ex×Spec}{t:List (Ex×Spec)}{y:Sum (p.2.T G) (DA G (q::t))}(h:GD (p::q::t) e st=A y):
  (∃x,y=.inl x/\e=p.1/\p.2.take st=A x)\/∃z,y=.inr z/\GD (q::t) e st=A z:=by
 have h:(match bif ZU e p.1 then p.2.take st else C with
  |some x=>A (Sum.inl x)
  |none=>match GD (q::t) e st with|some y=>A (.inr y)|none=>C)=A y:=h
 split at h
 .rename_i x hx;generalize he:ZU e p.1=b at hx;cases b with
  |false=>cases hx
  |true=>exact .inl ⟨x,(D_ h).symm,Art he,hx⟩
 .split at h
  .rename_i z hz;exact .inr ⟨z,(D_ h).symm,hz⟩
  .cases h
def Vv{cx:Cx}(hnu:∀n y,cx.nu0 n=A y->lo<=n){R:Type}:∀(E:List (Ex×Spec)) {e:Ex}{st:St G}{y:DA G E},GD E e st=A y->∀{a:Act}{w:World},Rel G cx st a w->∀(k:Ex×St G->Option R) (o:R),Fs E y k=A o->
  ∃st',k (e,st')=A o/\Rel G cx st' a w
 |[],_,_,y,_,_,_,_,_,_,_=>y.elim
 |[p],e,st,y,h,a,w,r,k,o,hk=>by obtain⟨rfl,h2⟩:=Akr h;exact⟨_,hk,Spec.take_rel h2 r hnu⟩
 |p::q::t,e,st,y,h,a,w,r,k,o,hk=>by
  rcases Aks h with⟨x,rfl,rfl,h3⟩|⟨z,rfl,h2⟩
  .exact⟨_,hk,Spec.take_rel h3 r hnu⟩
  .exact Vv hnu (q::t) h2 r k o hk
def Ae1:∀(E:List (Ex×Spec)) (y:DA G E) (e0:Ex) (st:St G),GD E e0 st=A y->∀o,Fs E y A=A o->o.1=e0
 |[],y,_,_,_,_,_=>y.elim
 |[p],y,e0,st,h,o,ho=>by obtain⟨rfl,_⟩:=Akr h;have ho:A (p.1,p.2.mk' y)=A o:=ho;rw[<-D_ ho]
 |p::q::t,y,e0,st,h,o,ho=>by
  rcases Aks h with⟨x,rfl,rfl,h3⟩|⟨z,rfl,h2⟩
  .have ho:A (p.1,p.2.mk' x)=A o:=ho;rw[<-D_ ho]
  .exact Ae1 (q::t) z e0 st h2 o ho
def Ayd(hm:Law m)(h:Ang E m _ A=A (e,st')):
  ∃st,m _ A=A (e,st)/\∀{cx:Cx}(_:∀n y,cx.nu0 n=A y->lo<=n) {a:Act}{w:World},Rel G cx st a w->Rel G cx st' a w:=by
 unfold Ang at h;have hl:=hm (DA G E) λp=>GD E p.1 p.2;rw[hl]at h;cases hv:m _ A with
 |none=>rw[hv]at h;simp at h
 |some p=>
  rw[hv]at h;simp only[Option.bind]at h;cases hy:GD E p.1 p.2 with
  |none=>rw[hy]at h;simp at h
  |some y=>rw[hy]at h;simp only at h;have he:=Ae1 E y p.1 p.2 hy _ h;simp at he;subst he;refine⟨p.2,rfl,λ{cx} hnu {a w} r=>?_⟩;obtain⟨st2,h1,h2⟩:=Vv hnu E hy r A _ h;simp at h1;subst h1;exact h2
def NE{R:Type}:∀(E:List (Ex×Spec)) (y:DA G E) (k:Ex×St G->Option R),Fs E y k=(Fs E y A).bind k
 |[],y,_=>y.elim
 |[p],y,k=>rfl
 |p::q::t,y,k=>by
  cases y with
  |inl x=>rfl
  |inr y=>exact NE (q::t) y k
def Bct:Law (Ang E m):=by
 intro R k;unfold Ang;cases m _ (λp=>GD E p.1 p.2)with
 |none=>rfl
 |some y=>exact NE E y k
def Nv(hm:Law m):Law (Aia j m):=by
 cases j with
 |none=>exact hm
 |some E=>exact Bct
def Lf(hm:Law m)(h:Aia j m _ A=A (e,st')):
  ∃st,m _ A=A (e,st)/\∀{cx:Cx}(_:∀n y,cx.nu0 n=A y->lo<=n) {a:Act}{w:World},Rel G cx st a w->Rel G cx st' a w:=by
 cases j with
 |none=>exact⟨st',h,λ{_} _ {_ _} r=>r⟩
 |some E=>exact Ayd hm h
end Go.Ab
namespace Go.Ab
variable{G:Sig}
variable{ν:Nat->Option Value}{f:St G->M (Ex×St G)}{S:Nat->Prop}{st:St G}{w:World}{e:Exit}{a:Act}{x:Pv G.T}{id:Nat}
def AQ:Code->List Code
 |.seq a b=>AQ a++AQ b
 |.cond _ a b=>AQ a++AQ b
 |.block _ a=>AQ a
 |.loop a=>a::AQ a
 |_=>[]
def SR:∀c:Code,ER c=(AQ c).length:=by
 intro c;induction c with
 |seq a b iha ihb=>simp[ER,AQ,iha,ihb]
 |cond x a b iha ihb=>simp[ER,AQ,iha,ihb]
 |block n a ih=>simp[ER,AQ,ih]
 |loop a ih=>simp[ER,AQ,ih]
 |_=>rfl
def ExR:Ex->Exit->Prop
 |.normal,.normal=>True
 |.exit i,.exit j=>i=j
 |.ret,.ret=>True
 |_,_=>False
def Ju(h:ExR .normal e):e=.normal:=by cases e<;>first|rfl|exact h.elim
def XE{i:Nat}(h:ExR (.exit i) e):e=.exit i:=by cases e<;>first|exact h.elim|(have:i=_:=h;rw[this])
def SY(h:ExR .ret e):e=.ret:=by cases e<;>first|rfl|exact h.elim
structure LoopOK(P:Program)(G:Sig)(nt:Nat)(f:St G->M (Ex×St G))(c:Code):Prop where
 law:∀st,Law (f st)
 wp:∀st ex st',f st (Ex×St G) some=some (ex,st')->∀(cx:Cx) (a:Act) (w:World) (Q:Exit->Act->World->Prop),cx.nt=nt->(∀n y,cx.nu0 n=some y->lo<=n)->Rel G cx st a w->
  (∀e a' w',ExR ex e->Rel G cx st' a' w'->Q e a' w')->(Code.loop c).wp P Q a w
structure DrawOK(P:Program)(G:Sig)(nt:Nat)(f:Array Oper->St G->M (St G)):Prop where
 law:∀ops st,Law (f ops st)
 wp:∀ops st st',f ops st (St G) some=some st'->∀(cx:Cx) (a:Act) (w:World) (id:Nat) (Q:Exit->Act->World->Prop),cx.nt=nt->Rel G cx st a w->
  (∀a' w',Rel G cx st' a' w'->Q .normal a' w')->(Code.region id ops true).wp P Q a w
def Ac7:∀(ks:List Nat) (l:List (Nat×Sv G.T)) (k:Nat) (s:Sv G.T),Y (Aic l ks) k=A s->Y l k=A s
 |[],_,_,_,h=>h
 |n::t,l,k,s,h=>by
  have:=Ac7 t (del l n) k s h
  rw[WH]at this;by_cases e:n=k
  .simp[e]at this
  .simpa[e]using this
def Rel.kill{cx:Cx}(h:Rel G cx st a w)(ks:List Nat):Rel G cx (st.kill ks) a w:=
 let⟨ν,S,r⟩:=h
 ⟨ν,S,⟨λk s hk=>r.slot k s (Ac7 ks _ k s hk),r.heap,r.used,r.defers,r.nt,r.size,r.frame,r.env,r.sub,r.keep,r.names⟩⟩
section
variable{P:Program}(ok:SigOK P G)(eqok:EqOK P G){cf:BW G}(cfok:CfOK P G cf){nt:Nat}{drawn:Array Oper->St G->M (St G)}(dok:DrawOK P G nt drawn)
 {lp:Nat->St G->M (Ex×St G)}{kl:Nat->List Nat}{jn:Nat->Option (List (Ex×Spec))}
theorem An9(tm:List (Nat×Sv G.T))(c:Operand):Law (Xu tm c):=by
 cases c with
 |tmp t=>
  intro R k;show Afu tm t R k=(Afu tm t _ A).bind k;unfold Afu;split
  .rename_i b _;cases b<;>rfl
  .rfl
 |const v=>show Law (Alx v);cases v<;>first|exact Ae _|exact Aj
 |global g=>exact Aj
 |func f=>exact Aj
theorem Aoa(hf:∀st,Law (f st))(st:St G):Law (Au6 jn id f st):=by
 refine Ac (Nv (Ae _)) λp=>?_;split
 .exact hf _
 .exact Aj
theorem Vj{st':St G}{ex:Ex}(h:Au6 jn id f st _ A=A (ex,st')):
  ∃st1,f st1 _ A=A (ex,st')/\∀{cx:Cx}{a:Act}{w:World},(∀n y,cx.nu0 n=A y->lo<=n)->Rel G cx st a w->Rel G cx st1 a w:=by
 obtain⟨⟨e1,st1⟩,h1,h2⟩:=(Nv (Ae _)).spec (aC h);obtain⟨st0,h0,hcut⟩:=Lf (Ae _) h1;simp[J]at h0;obtain⟨rfl,rfl⟩:=h0;exact⟨st1,h2,λhnu r=>hcut hnu r⟩
include cfok dok in
theorem DC:∀(c:Code) (n:Nat) (st:St G),(∀(k:Nat) c',(AQ c)[k]?=A c'->LoopOK P G nt (lp (n+k)) c')->Law (BQ cf nt drawn lp kl jn n c st)
 |.skip,_,_,_=>Ae _
 |.ret,_,_,_=>Ae _
 |.exit _,_,_,_=>Ae _
 |.seq a b,n,st,hl=>by
  unfold BQ;refine Ac (Nv (DC a n st λk c' hk=>hl k c' ?_)) λp=>?_
  .simp only[AQ];rw[c0_ (g_.1 hk).1];exact hk
  .split
   .refine DC b _ _ λk c' hk=>?_;rw[SR,T_];refine hl _ c' ?_;simp only[AQ];rw[b9_ ω,b1_];exact hk
   .exact Ae _
 |.cond c a b,n,st,hl=>by
  unfold BQ;refine Ac (An9 _ _) λp=>?_;split
  .refine DC a n _ λk c' hk=>hl k c' ?_;simp only[AQ];rw[c0_ (g_.1 hk).1];exact hk
  .refine DC b _ _ λk c' hk=>?_;rw[SR,T_];refine hl _ c' ?_;simp only[AQ];rw[b9_ ω,b1_];exact hk
 |.block id a,n,st,hl=>by unfold BQ;refine Ac (DC a n st hl) λp=>?_;split<;>exact Ae _
 |.loop c,n,st,hl=>(hl 0 c rfl).law st
 |.region id ops false,_,st,_=>by unfold BQ;exact Aoa (λst=>Nv (Ac (SQ (cx:=⟨default,λ_=>False,λ_=>False,λ_=>C,nt,[]⟩) cfok ops ops.toList st) λ_=>Ae _)) st
 |.region id ops N,_,st,_=>Aoa (λst=>Nv (Ac (dok.law _ _) λ_=>Ae _)) st
 |.rangeFunc ..,_,_,_=>Aj
 |.scope _,_,_,_=>Aj
 |.label _,_,_,_=>Aj
 |.goto _,_,_,_=>Aj
 |.refuse _,_,_,_=>Aj
include ok eqok cfok dok in
theorem Fa{cx:Cx}(hnt:cx.nt=nt)(hnu:∀n y,cx.nu0 n=A y->lo<=n):∀(c:Code) (n:Nat) (st st':St G) (ex:Ex) (a:Act) (w:World) (Q:Exit->Act->World->Prop),
  (∀(k:Nat) c',(AQ c)[k]?=A c'->LoopOK P G nt (lp (n+k)) c')->BQ cf nt drawn lp kl jn n c st (Ex×St G) A=A (ex,st')->Rel G cx st a w->
  (∀e a' w',ExR ex e->Rel G cx st' a' w'->Q e a' w')->c.wp P Q a w
 |.skip,_,st,st',ex,a,w,Q,_,h,r,hQ=>by simp[BQ,J]at h;obtain⟨rfl,rfl⟩:=h;exact wp_skip (hQ _ _ _ trivial r)
 |.ret,_,st,st',ex,a,w,Q,_,h,r,hQ=>by simp[BQ,J]at h;obtain⟨rfl,rfl⟩:=h;exact wp_ret (hQ _ _ _ trivial r)
 |.exit i,_,st,st',ex,a,w,Q,_,h,r,hQ=>by simp[BQ,J]at h;obtain⟨rfl,rfl⟩:=h;exact wp_exit (hQ _ _ _ rfl r)
 |.seq x y,n,st,st',ex,a,w,Q,hl,h,r,hQ=>by
  unfold BQ at h;have hlx:∀(k:Nat) c',(AQ x)[k]?=A c'->LoopOK P G nt (lp (n+k)) c':=λk c' hk=>hl k c' (by simp only[AQ];rw[c0_ (g_.1 hk).1];exact hk);obtain⟨⟨e1,st1⟩,h1,h2⟩:=(Nv (DC cfok dok x n st hlx)).spec (aC h);obtain⟨st0,h0,hcut⟩:=Lf (DC cfok dok x n st hlx) h1;refine wp_seq (Fa hnt hnu x n st st0 e1 a w _ hlx h0 r λe a' w' he r''=>?_);have r':=hcut hnu r'';cases e1 with
  |normal=>rw[Ju he];refine Fa hnt hnu y (n+ER x) st1 st' ex a' w' Q (λk c' hk=>?_) h2 r' hQ;rw[SR,T_];refine hl _ c' ?_;simp only[AQ];rw[b9_ ω,b1_];exact hk
  |exit i=>simp[J]at h2;obtain⟨rfl,rfl⟩:=h2;rw[XE he];exact hQ _ _ _ rfl r'
  |ret=>simp[J]at h2;obtain⟨rfl,rfl⟩:=h2;rw[SY he];exact hQ _ _ _ trivial r'
 |.cond c x y,n,st,st',ex,a,w,Q,hl,h,r,hQ=>by
  unfold BQ at h;obtain⟨⟨b,g⟩,hb,h2⟩:=(An9 st.tm c).spec (aC h);have hcb:a.eval c=.bool b/\Rel G cx (st.note g) a w:=by
   obtain⟨ν,S,r⟩:=r;cases c with
   |tmp t=>
    simp only[Xu,Afu]at hb;split at hb
    .rename_i b0 hg
     have:(b0,A (t,b0))=(b,g):=by cases b0<;>simpa using hb
     simp at this;obtain⟨rfl,rfl⟩:=this;exact⟨Akn r hg,ν,S,r.note hg⟩
    .simp at hb
   |const v=>
    cases v with
    |bool b0=>simp[Xu,Alx,J]at hb;obtain⟨rfl,rfl⟩:=hb;exact⟨rfl,ν,S,r⟩
    |_=>simp[Xu,Alx,I]at hb
   |global _=>simp[Xu,I]at hb
   |func _=>simp[Xu,I]at hb
  refine wp_cond hcb.1 ?_;cases b with
  |true=>refine Fa hnt hnu x n _ st' ex a w Q (λk c' hk=>hl k c' ?_) h2 hcb.2 hQ;simp only[AQ];rw[c0_ (g_.1 hk).1];exact hk
  |false=>refine Fa hnt hnu y (n+ER x) _ st' ex a w Q (λk c' hk=>?_) h2 hcb.2 hQ;rw[SR,T_];refine hl _ c' ?_;simp only[AQ];rw[b9_ ω,b1_];exact hk
 |.block id x,n,st,st',ex,a,w,Q,hl,h,r,hQ=>by
  unfold BQ at h;obtain⟨⟨e1,st1⟩,h1,h2⟩:=(DC cfok dok x n st hl).spec (aC h);refine wp_block (Fa hnt hnu x n st st1 e1 a w _ hl h1 r λe a' w' he r'=>?_);cases e1 with
  |normal=>simp[J]at h2;obtain⟨rfl,rfl⟩:=h2;rw[Ju he];exact hQ _ _ _ trivial r'
  |exit i=>
   simp only[J,Bf]at h2;rw[XE he];by_cases hi:i=id
   .simp[hi]at h2;obtain⟨rfl,rfl⟩:=h2;simp only[Exit.inBlock,hi,if_true];exact hQ _ _ _ trivial r'
   .simp[hi]at h2;obtain⟨rfl,rfl⟩:=h2;simp only[Exit.inBlock,hi,if_false];exact hQ _ _ _ rfl r'
  |ret=>simp[J]at h2;obtain⟨rfl,rfl⟩:=h2;rw[SY he];exact hQ _ _ _ trivial r'
 |.loop c,n,st,st',ex,a,w,Q,hl,h,r,hQ=>(hl 0 c rfl).wp st ex st' h cx a w Q hnt hnu r hQ
 |.region id ops false,_,st,st',ex,a,w,Q,_,h,r,hQ=>by unfold BQ at h;subst hnt;obtain⟨stp,h,hpre⟩:=Vj h;have r:=hpre hnu r;have hlr:=SQ (cx:=cx) cfok ops ops.toList stp;obtain⟨st0,h0,hcut⟩:=Lf (Ac hlr λ_=>Ae _) h;obtain⟨st1,h1,h2⟩:=hlr.spec (aC h0);simp[J]at h2;obtain⟨rfl,rfl⟩:=h2;exact wp_region_list (Aa5 ok eqok cfok ops.toList stp st1 a w h1 r λa' w' r'=>hQ _ _ _ trivial (hcut hnu (r'.kill _)))
 |.region id ops N,_,st,st',ex,a,w,Q,_,h,r,hQ=>by unfold BQ at h;obtain⟨stp,h,hpre⟩:=Vj h;have r:=hpre hnu r;obtain⟨st0,h0,hcut⟩:=Lf (Ac (dok.law ops stp) λ_=>Ae _) h;obtain⟨st1,h1,h2⟩:=(dok.law ops stp).spec (aC h0);simp[J]at h2;obtain⟨rfl,rfl⟩:=h2;exact dok.wp ops stp st1 h1 cx a w id Q hnt r λa' w' r'=>hQ _ _ _ trivial (hcut hnu (r'.kill _))
 |.rangeFunc ..,_,_,_,_,_,_,_,_,h,_,_=>by simp[BQ,I]at h
 |.scope _,_,_,_,_,_,_,_,_,h,_,_=>by simp[BQ,I]at h
 |.label _,_,_,_,_,_,_,_,_,h,_,_=>by simp[BQ,I]at h
 |.goto _,_,_,_,_,_,_,_,_,h,_,_=>by simp[BQ,I]at h
 |.refuse _,_,_,_,_,_,_,_,_,h,_,_=>by simp[BQ,I]at h
def Avq(tmps:Array Value):ResultVar->Sem Value
 |.tmp t=>pure (tmps.getD t undef)
 |.cell a t=>do loadVar t (<-asAddr (tmps.getD a undef))
theorem Bv1{h:Array Obj}{v:Value}(r:Rs G ν S h (.p x) v):Rp G ν S h x v:=by cases r;assumption
include ok in
theorem Bgu{cx:Cx}(r:RelI G cx ν S st a w){rv:ResultVar}(h:Vp st rv=A x):
  ∃v,(Avq a.tmps rv).run P w=.ok v w/\Rp G ν S w.heap x v:=by
 cases rv with
 |tmp t=>
  simp only[Vp]at h;split at h
  .rename_i y hy;simp at h;subst h;exact⟨_,rfl,Bv1 (r.slot t _ hy)⟩
  .simp at h
 |cell b t=>
  simp only[Vp]at h;split at h
  .rename_i c hc;split at h
   .rename_i cs hcs;have hs:=r.slot b _ hc;generalize hu:a.tmps.getD b undef=u at hs;cases hs with
    |p _ _ hp=>
    cases hp with
    |one _ _ hrc=>
    obtain⟨bb,off,vs,rfl,hf,hlen,hcell⟩:=Agk ok r.heap hcs hrc;have hno:G.ty t≠ .no:=by
     intro e;rw[ok.nosz t e]at hlen
     have:cs=[]:=by have:=hf.1;rw[hlen]at this;exact P_ this
     subst this;simp[RR,e,Ty.isAgg]at h
    refine⟨_,?_,QL h hf⟩;have hload:(loadCells ⟨bb,off,C⟩ vs.length).run P w=.ok vs.toArray w:=run_loadCells_list (P:=P) w ⟨bb,off,C⟩ vs (λj v hj=>by rw[FK];exact hcell j v hj);simp only[Avq,hu,asAddr,loadVar,z_,a4_,q_,ok.isAgg w hno];cases ha:(G.ty t).isAgg with
    |true=>simp only[if_true,z_,ok.sizeOf w hno,q_,<-hlen,hload,a4_]
    |false=>
     have hone:vs.length=1:=by
      simp only[RR,ha,c_]at h;split at h
      .have:=hf.1;simpa using this.symm
      .simp at h
     obtain⟨u,rfl⟩:∃u,vs=[u]:=List.length_eq_one_iff.1 hone;have hu':=hcell 0 u rfl;simp only[b6_]at hu';simp[hu']
   .simp at h
  .simp at h
include ok in
theorem Asj{cx:Cx}{ν:Nat->Option Value}{S:Nat->Prop}{st:St G}{a:Act}{w:World}(r:RelI G cx ν S st a w):∀(rs:List ResultVar) (xs:List (Pv G.T)),HC st rs=A xs->
  ∃vs:List Value,(rs.mapM (Avq a.tmps)).run P w=.ok vs w/\F2 (Rp G ν S w.heap) xs vs
 |[],xs,h=>by simp[HC]at h;subst h;exact⟨[],rfl,.nil⟩
 |rv::t,xs,h=>by
  simp only[HC]at h;split at h
  .rename_i x l hx hl;simp at h;subst h;obtain⟨v,h1,h2⟩:=Bgu ok r hx;obtain⟨vs,h3,h4⟩:=Asj r t l hl;exact⟨v::vs,by simp only[List.mapM_cons,z_,h1,q_,h3,a4_],h4.cons h2⟩
  .simp at h
include ok in
theorem Arc{cx:Cx}(r:RelI G cx ν S st a w){fn:Func}{s:Sv G.T}(h:RV st fn.results.toList=A s):
  ∃v,(results fn a.tmps).run P w=.ok v w/\Rs G ν S w.heap s v:=by
 unfold RV at h;cases hra:HC st fn.results.toList with
 |none=>simp[hra]at h
 |some xs=>
  obtain⟨vs,h1,h2⟩:=Asj ok r _ xs hra;have hrun:(results fn a.tmps).run P w=.ok (if h:vs.toArray.size=1 then vs.toArray[0]else .tuple vs.toArray) w:=by
   have e:results fn a.tmps=(do let vs <-fn.results.mapM (Avq a.tmps);pure (if h:vs.size=1 then vs[0]else .tuple vs)):=by unfold results;congr 1
   rw[e,z_,Array.mapM_eq_mapM_toList];simp only[Sem.run_map,h1];rfl
  refine⟨_,hrun,?_⟩;rw[hra]at h;cases xs with
  |nil=>
   simp at h;subst h
   have:=h2.inv_nil;subst this
   exact .tup _ _ .nil
  |cons x t=>
   cases t with
   |nil=>
    simp at h;subst h;obtain⟨v,t',rfl,hv,ht⟩:=h2.inv
    have:=ht.inv_nil;subst this
    exact .p _ _ hv
   |cons y t'=>
    simp at h;subst h;have hl:vs.toArray.size≠1:=by have:=h2.1;simp at this|-;omega
    rw[dif_neg hl];exact .tup _ _ h2
end
end Go.Ab
