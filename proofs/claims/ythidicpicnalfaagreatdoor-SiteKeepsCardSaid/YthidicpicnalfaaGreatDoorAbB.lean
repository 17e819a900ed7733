import Derived.Test.YthidicpicnalfaaGreatDoorAbA
import Derived.Maps.AppendAt
import Derived.Laws.BytesString
import Derived.Laws.Externs
set_option linter.all false
open Option renaming some->A,none->C,map_none->aJ
open Go.Ab.M renaming fail->I,ret->J,bindneed->L,bindopt->V,bind_spec->aC
open Bool renaming true->N
open Go.Ab renaming Out->O,Blk->W,get->Y,Runs->Z,bindC->aB
open Go.Ab.CSh renaming take->U
open Nat renaming min->X,beq->aD,blt->aF,min_le_left->aH
open Go.Ab.Runs renaming outV->aA,outP->aE
open Array renaming range->aG
open List renaming getElem?_range->aI
namespace Go.Ab
variable{G:Sig}
variable{x:Operand}{t:Nat}
def Mj:List Value->List Value->Option Bool
 |[],[]=>A N
 |a::p,b::k=>
  match eqV a b,Mj p k with
  |some x,A y=>A<|x&&y
  |_,_=>C
 |_,_=>C
structure EqOK(P:Program)(G:Sig):Prop where
 guard:∀t,(G.ty t).isAgg=true->P.eqGuardType P.depth t=false
 eq:∀t (xs ys:List Value) b w,(G.ty t).isAgg=true->RI G 20 t=true->DS BO xs=zk G t->DS BO ys=zk G t->Mj xs ys=some b->(Op.equal t (.agg xs.toArray) (.agg ys.toArray)).run P w=.ok b w
section
variable{P:Program}{ν:Nat->Option Value}{S B:Nat->Prop}{h:Nat->Option (W G.T)}{w:World}{ρ:Operand->Value}{o:Oper}
variable(ok:SigOK P G){ev:Operand->Option (Sv G.T)}(hev:∀x s,ev x=A s->Rs G ν S w.heap s (ρ x))(hr:HRel G ν S B h w)(hB:∀b,w.heap.size<=b->B b)
 {cf:Dc G}{nm:Nat}{out:O G}(hfresh:∀n∈out.nw,ν n=C)
include hev hr ok
theorem Ahb{i:Operand}(ho:o.op=.indexAddr t x i)(r:FQ ev h t x i (O G) A=A out):Z P G ρ o ν S B h w out:=by
 unfold FQ at r;cases ht:G.ty t with
 |arr n e=>
  simp only[ht]at r;obtain⟨c,hc,r⟩:=aB r;obtain⟨k,j,hj,r⟩:=Ae r;obtain⟨hu,he⟩:=ok.arr t n e ht;cases c with
  |ptr b off=>simp only[ixA]at r;obtain⟨hb,r⟩:=L r;simp[J]at r;subst r;obtain⟨h0,h1⟩:=Oi hb;obtain⟨b',h4,hv⟩:=Hv hev hc;have Q:=(FG hev hj).1;refine aE hr (v:=.pointer<|A ⟨b',off+j.toNat*G.sz e,C⟩) ?_<|.one _ _ ⟨ω,b',h4,rfl⟩;unfold execOp;rw[ho];simp only[Instr.indexAt,Q,asIntOf,K_,a2_,u_,M_ hu w,hv,Instr.sureAddr,Sem.run_ite,ok.sizeOf w he,Hz];rw[if_pos ⟨h0,h1⟩];rfl
  |pr b t' j' off=>simp only[ixA]at r;obtain⟨hb,r⟩:=L r;simp[J]at r;subst r;obtain⟨h0,h1⟩:=Oi hb;obtain⟨b',len,R,h4,ha,hv⟩:=Hv hev hc;have Q:=(FG hev hj).1;refine aE hr (v:=.pointer<|A ⟨b',j'*G.sz t'+off+j.toNat*G.sz e,C⟩) ?_<|.one _ _ ⟨b',len,R,h4,ha,by rw[V_]⟩;unfold execOp;rw[ho];simp only[Instr.indexAt,Q,asIntOf,K_,a2_,u_,M_ hu w,hv,Instr.sureAddr,Sem.run_ite,ok.sizeOf w he,Hz];rw[if_pos ⟨h0,h1⟩];rfl
  |rp t' x' off=>
   simp only[ixA]at r;obtain⟨hb,r⟩:=L r;obtain⟨cs,hd,r⟩:=V r;obtain⟨y,hy,r⟩:=V r;simp[J]at r;subst r;obtain⟨h0,h1⟩:=Oi hb;have Q:=(FG hev hj).1;have h6:Rd G S w.heap (.rp t' x' off)<|ρ x:=Hv hev hc;generalize x4:ρ x=vx at h6;cases h6 with
   |rp _ _ _ b base c te fz vs hS x6 x2 hw=>
    simp only[Wj]at hd;obtain⟨m1,m2⟩:=CX _ _ hd;have D:∀q,q<G.sz e->∃z,cs[q]?=A z/\(G.enc t' x')[off+j.toNat*G.sz e+q]?=A z:=by
     intro q hq;obtain⟨z,hz,hf⟩:=m2 q q (by simp[hq]);split at hf
     .rename_i l hl;obtain⟨l1,l2⟩:=CX _ _ hl;have hn:j.toNat<l.length:=by simp at l1;omega
      have hk:=XF hf hn;obtain⟨y',h9,x1⟩:=l2 j.toNat j.toNat (by rw[aI ω]);rw[hk]at h9;cases h9;exact⟨z,hz,x1⟩
     .simp at hf
    have x5:=ok.encdec e cs y hy;refine aE hr (v:=.pointer<|A ⟨b,base+off+j.toNat*G.sz e,C⟩) ?_<|.one _ _ ?_
    .unfold execOp;rw[ho];simp only[Instr.indexAt,Q,asIntOf,K_,a2_,u_,M_ hu w,x4,Instr.sureAddr,Sem.run_ite,ok.sizeOf w he,Hz];rw[if_pos ⟨h0,h1⟩];rfl
    .have:=Rd.rp (G:=G) (S:=S) (h:=w.heap) e y 0 b (base+off+j.toNat*G.sz e) c te fz (λq=>vs<|off+j.toNat*G.sz e+q) hS x6 (λq hq=>by
      obtain⟨z,_,hz⟩:=D q hq;have ha:=(e_.1 hz).1
      have:=ok.encl t' x'
      rw[<-x2 _ ω];congr 1;omega) (λq cv hq=>by
      rw[x5]at hq;have hp:q<G.sz e:=by have:=(e_.1 hq).1;simp at m1;omega
      obtain⟨z,x0,x3⟩:=D q hp;rw[x0]at hq;cases hq;exact hw _ _ x3)
     exact this
  |_=>simp[ixA,I]at r
 |sl e=>
  simp only[ht]at r;obtain⟨c,hc,r⟩:=aB r;obtain⟨k,j,hj,r⟩:=Ae r;obtain⟨hu,he,_⟩:=ok.sl t e ht;have Q:=(FG hev hj).1;have h8:∀(b off len R:Nat),ρ x=.slice (A ⟨b,off,C⟩) len R->0<=j->j<len->
    (execOp ρ o).run P w=.ok (.value<|.pointer<|A ⟨b,off+j.toNat*G.sz e,C⟩) w:=by
   intro b off len R hv h0 h1;unfold execOp;rw[ho];simp only[Instr.indexAt,Q,asIntOf,K_,a2_,u_,M_ hu w,hv,Sem.run_ite,ok.sizeOf w he,Hz];rw[if_pos ⟨h0,h1⟩];rfl
  cases c with
  |own m=>
   simp only[ixS]at r;cases hm:h m with
   |none=>simp[hm,I]at r
   |some blk=>
    cases blk with
    |cells cs=>simp[hm,I]at r
    |row e' l=>
     simp only[hm]at r;obtain⟨h7,h2⟩:=L r;obtain⟨hb,F⟩:=L h2;have h3:=AQ.1 h7;simp[J]at F;subst F;subst h3;obtain⟨h0,h1⟩:=Oi hb;obtain⟨a,len,R,h5,hv⟩:=Hv hev hc;rcases hr.blk m _ hm with⟨g1,g2⟩|⟨b,x8,c,te,g1,g2,g3,g4,g5⟩
     .subst g2;simp at h1;omega
     .rw[h5]at g1;simp at g1;rw[g1]at hv h5;refine Runs.value hr rfl (v:=.pointer<|A ⟨b,0+j.toNat*G.sz e',C⟩) (h8 b 0 _ _ g1 h0 h1) λs hs=>?_;simp at hs;subst hs;exact .p _ _<|.one _ _ ⟨b,_,_,h5,ω,σ⟩
  |ro e' l=>
   simp only[ixS]at r;obtain⟨h7,h2⟩:=L r;obtain⟨hb,F⟩:=L h2;have h3:=AQ.1 h7;simp[J]at F;subst F;subst h3;obtain⟨h0,h1⟩:=Oi hb;have hg:Rd G S w.heap (.ro e' l)<|ρ x:=Hv hev hc;generalize hx:ρ x=u at hg;cases hg with
   |nil _ a R=>simp at h1;omega
   |ro _ _ b off R c te fz vs hS h4 _ x7 D h6=>
    have hi:j.toNat<l.length:=ω;refine aE hr (h8 b off _ _ hx h0 h1)<|.one _ _ ?_
    have:=Rd.rp (G:=G) (S:=S) (h:=w.heap) e' (l.getD j.toNat<|G.dfl e') 0 b (off+j.toNat*G.sz e') c te fz (λq=>vs j.toNat q) hS h4 (λq hq=>by rw[D _ _ hi hq])
     (λq cv hq=>h6 j.toNat q _ cv (by simp[hi]) hq)
    exact this
  |sa m off len=>simp only[ixS]at r;obtain⟨hb,h2⟩:=L r;obtain⟨_,_,F⟩:=M.pick_spec h2;simp[J]at F;subst F;obtain⟨h0,h1⟩:=Oi hb;obtain⟨b,g1,g2⟩:=Hv hev hc;exact aE hr (h8 b off _ _ g2 h0 h1)<|.one _ _ ⟨b,g1,rfl⟩
  |_=>simp[ixS,I]at r
 |_=>simp[ht,I]at r
theorem Aue{i:Operand}(ho:o.op=.index t x i)(p:QV ev t x i (O G) A=A out):Z P G ρ o ν S B h w out:=by
  unfold QV at p;cases ht:G.ty t with
  |arr n e=>
    simp only[ht]at p;obtain⟨c,hc,p⟩:=Sc p;obtain⟨k,j,hj,p⟩:=Ae p;have h9:=TK hev hc;generalize hu:ρ x=u at h9;cases h9 with
    |one c v hs=>simp[Ale,I]at p
    |agg ds vs h5=>
    simp only[Ale]at p;obtain⟨R,p⟩:=L p;obtain⟨h0,h1⟩:=Oi R;obtain⟨hn,he⟩:=ok.arr t n e ht;have Q:=(FG hev hj).1;have h7:=ok.pos _ he;have hm:∃cs y,RK G e cs=A y/\out=outP y/\cs.length=G.sz e/\∀q,q<G.sz e->∃z,cs[q]?=A z/\ds[j.toNat*G.sz e+q]?=A z:=by
     cases h6:Bd0 ds with
     |true=>rw[h6]at p;obtain⟨_,_,p⟩:=M.pick_spec p;unfold Bjw at p;obtain⟨cs,F,p⟩:=V p;obtain⟨y,hy,p⟩:=V p;simp[J]at p;subst p;obtain⟨p1,p2,p3⟩:=Ol F;exact⟨cs,y,hy,rfl,p1,λq hq=>⟨cs[q]'ω,h_ _,by rw[<-p3 q hq];exact h_ _⟩⟩
     |false=>
      rw[h6]at p;obtain⟨cs,F,p⟩:=V p;obtain⟨y,hy,p⟩:=V p;simp[J]at p;subst p;simp only[Wj]at F;obtain⟨m1,m2⟩:=CX _ _ F;refine⟨cs,y,hy,rfl,by simpa using m1,λq hq=>?_⟩;obtain⟨z,hz,hf⟩:=m2 q q (by simp[hq]);split at hf
      · rename_i l hl
        obtain⟨l1,l2⟩:=CX _ _ hl;have hd:j.toNat<l.length:=by simp at l1;omega
        have h8:=XF hf hd;obtain⟨z',h2,hg⟩:=l2 j.toNat j.toNat (by rw[aI ω]);rw[h8]at h2;cases h2;exact⟨z,hz,hg⟩
      · cases hf
    obtain⟨cs,y,hy,rfl,hv,r⟩:=hm;have hp:=h5.1;have hw:j.toNat*G.sz e+G.sz e<=vs.length:=by
      obtain⟨z,_,hz⟩:=r (G.sz e-1) ω
      have:=(e_.1 hz).1
      omega
    have hF:F2 (Rc G ν S w.heap) cs<|(vs.drop<|j.toNat*G.sz e).take<|G.sz e:=by
      refine⟨by simp;omega,λi a b ha R=>?_⟩;have hi:i<G.sz e:=by have:=(e_.1 ha).1;omega
      obtain⟨z,hz,hk⟩:=r i hi;rw[hz]at ha;cases ha;rw[B_ hi,c1_]at R;exact h5.2 _ _ b hk R
    refine aE hr (v:=if(G.ty e).isAgg then .agg ((vs.drop<|j.toNat*G.sz e).take<|G.sz e).toArray else((vs.drop<|j.toNat*G.sz e).take<|G.sz e).getD 0 undef) ?_<|QH hy hF;unfold execOp;rw[ho];simp only[Instr.index,Q,asIntOf,K_,a2_,u_,M_ hn w,hu,Sem.run_ite,ok.sizeOf w he,Go.part,ok.isAgg w he];rw[if_pos ⟨h0,h1⟩];cases ha:(G.ty e).isAgg with
    |true=>simp
    |false=>have D:j.toNat*G.sz e<vs.length:=ω;rw[List.getD,B_ h7];simp[D]
  |str=>
    simp only[ht]at p;obtain⟨c,hc,p⟩:=aB p;obtain⟨k,j,hj,p⟩:=Ae p;unfold ixV at p;cases c with
    |sc v=>
      cases v with
      |string s=>
      obtain⟨R,p⟩:=L p;simp[J]at p;subst p;obtain⟨h0,h1⟩:=Oi R;have Q:=(FG hev hj).1;have h3:=(FG hev hc).1;refine aA hr ?_ rfl;have D:j.toNat<s.data.size:=by
        have:(s.size:Int)=s.data.size:=rfl
        omega
      have h4:(s[j.toNat]?:Option UInt8)=A (s.data[j.toNat]):=by
        have:j.toNat<s.size:=D
        simp[getElem?_pos,this];rfl
      unfold execOp;rw[ho];simp only[Instr.index,Q,h3,asIntOf,K_,a2_,u_,M_ (ok.str t ht) w,h0,if_true,h4,BJ];rw[v_,c0_ D];rfl
      |_=>simp[I]at p
    |_=>simp[I]at p
  |_=>simp[ht,I]at p
omit ok
theorem Akm{f:Nat}{a b:Array Operand}(ho:o.op=.makeFunc (.func f) a b)(k:Uf ev f a.toList b.toList (O G) A=A out):Z P G ρ o ν S B h w out:=by
 unfold Uf at k;obtain⟨as,k,ha⟩:=Ad2 k;obtain⟨bs,k,hb⟩:=Ad2 k;obtain⟨h3,Q,k⟩:=V k;obtain⟨h2,h0,k⟩:=V k;simp[J]at k;subst k;have u:∀(xs:List Operand) (R:List<|Pv G.T) (F:List<|Nat×Nat),F2 (λx y=>ev x=A (.p y)) xs R->DT Ali R=A F->F2 (RPtr ν) F (xs.map ρ):=by
  intro xs R F hF hm;obtain⟨m1,m2⟩:=CX _ _ hm;refine⟨by simp[m1,hF.1],λi z v hz D=>?_⟩;rw[b3_]at D;cases hx:xs[i]? with
  |none=>simp[hx]at D
  |some x=>
   simp[hx]at D;subst D;obtain⟨y,hy,h1⟩:=hF.get hx;obtain⟨z',r,hp⟩:=m2 i y hy;rw[hz]at r;simp at r;subst r;unfold Ali at hp;split at hp
   .rename_i n off;simp at hp;subst hp;exact Hv hev h1
   .simp at hp
 refine aE hr (v:=.func (.func f) (a.toList.map ρ).toArray (b.toList.map ρ).toArray) ?_<|.one _ _ ⟨_,_,rfl,u _ _ _ ha Q,u _ _ _ hb h0⟩;unfold execOp;rw[ho];simp[Instr.makeFunc,<-Array.toList_map]
omit hr
theorem Sf{R:Type}{r:R}{k:Nat->Option R}{d m:Nat}{x:Option Operand}(p:GJ ev d m x R k=A r) :
  ∃n,k n=A r/\((x=C/\n=d)\/∃y u,x=A y/\ρ y=.int u (n:Int)/\n<=m):=by
 cases x with
 |none=>exact⟨d,p,.inl ⟨rfl,rfl⟩⟩
 |some y=>
  unfold GJ at p;obtain⟨u,i,D,p⟩:=Ae p;obtain⟨F,p⟩:=L p;simp at F
  have:=(FG hev D).1
  exact⟨i.toNat,p,.inr ⟨y,u,rfl,by rw[this];congr 1;omega,ω⟩⟩
omit hev in
theorem Afo{isS:Bool}{len r m a b:Nat}{lo F:Option Operand}(hb:(F=C/\b=len)\/∃y p,F=A y/\ρ y=.int p (b:Int)/\b<=m)(R:m<=r)
  (ha:(lo=C/\a=0)\/∃y p,lo=A y/\ρ y=.int p (a:Int)/\a<=b) :
  (Instr.sliceBounds isS len r (lo.map ρ) (F.map ρ) C).run P w=.ok (a,b,r) w:=by
 have one:∀(p:IntKind) (n y:Nat) (k:BoundsCode),n<=y->(Instr.sliceBound (.int p (n:Int)) y k).run P w=.ok n w:=by
  intro p n y k hn
  have:(0:Int)<=(n:Int)/\(n:Int)<=(y:Int):=ω
  simp[Instr.sliceBound,asIntOf,this]
 unfold Instr.sliceBounds;rcases hb with⟨rfl,rfl⟩|⟨y,p,rfl,hy,D⟩<;>rcases ha with⟨rfl,rfl⟩|⟨z,h0,rfl,Q,u⟩
 .simp
 .simp[Q,one _ _ _ _ u]
 .simp[hy,one _ _ _ _<|c5_ D R]
 .simp[hy,Q,one _ _ _ _<|c5_ D R,one _ _ _ _ u]
include hr ok
theorem Avj{lo hi mx:Option Operand}(ho:o.op=.slice t x lo hi mx)(k:QW ev t x lo hi mx (O G) A=A out):Z P G ρ o ν S B h w out:=by
 unfold QW at k;cases mx with
 |some y=>simp[I]at k
 |none=>
 simp only at k;cases ht:G.ty t with
 |str=>
  simp only[ht]at k;obtain⟨c,hc,k⟩:=aB k;unfold Wg at k;cases c with
  |sc v=>
   cases v with
   |string s=>obtain⟨b,h1,hb⟩:=Sf hev<|aC k;obtain⟨a,h2,ha⟩:=Sf hev<|aC h1;simp[J]at h2;subst h2;have hg:=(FG hev hc).1;refine aA hr ?_ rfl;unfold execOp;rw[ho];simp only[Instr.sliceAt,Instr.slice,hg,K_,u_,M_ (ok.str t ht) w,aJ];simp[Afo (P:=P) (w:=w) (isS:=false) hb (t_ _) ha]
   |_=>simp[I]at k
  |_=>simp[I]at k
 |sl e=>
  simp only[ht]at k;obtain⟨c,hc,k⟩:=aB k;obtain⟨hu,he,_⟩:=ok.sl t e ht;unfold Wf at k;cases c with
  |ro e' l=>
   obtain⟨hd,h0⟩:=L k;have h5:=AQ.1 hd;obtain⟨b,h1,hb⟩:=Sf hev<|aC h0;obtain⟨a,h2,ha⟩:=Sf hev<|aC h1;simp[J]at h2;subst h2;subst h5;have hf:b<=l.length:=by rcases hb with⟨_,rfl⟩|⟨_,_,_,_,hb⟩<;>omega
   have hn:a<=b:=by rcases ha with⟨_,rfl⟩|⟨_,_,_,_,ha⟩<;>omega
   have F:∀(a0:Option Addr) (p:Nat),l.length<=p->ρ x=.slice a0 l.length p->
     (execOp ρ o).run P w=.ok (.value (.slice (if p=a then a0 else a0.map (·.add (a*G.sz e'))) (b-a)<|p-a)) w:=by
    intro a0 p r hv;unfold execOp;rw[ho];simp only[Instr.sliceAt,Instr.slice,hv,K_,u_,M_ hu w,aJ];simp[Afo (P:=P) (w:=w) (isS:=N) hb r ha,ok.sizeOf w he]
   have h7:Rd G S w.heap (.ro e' l)<|ρ x:=Hv hev hc;generalize h4:ρ x=u at h7;have D:((l.take b).drop a).length=b-a:=by simp;omega
   have h6:∀v,Rd G S w.heap (.ro e'<|(l.take b).drop a) v->(execOp ρ o).run P w=.ok (.value v) w->Z P G ρ o ν S B h w (outP<|.one<|.ro e'<|(l.take b).drop a):=λv hv hx=>aE hr hx<|.one _ _ hv;cases h7 with
   |nil _ a0 p=>
    have hk:b=0:=by simpa using hf
    have hl:a=0:=ω;subst hk;subst hl;refine h6 _ ?_<|F a0 p σ (by simpa using h4);simp;exact .nil _ _ _
   |ro _ _ bb off p c te fz vs hS h3 hm r R h9=>
    refine h6 _ ?_<|F _ p r h4;by_cases hz:b=a
    .have:(l.take b).drop a=[]:=S_ (by rw[D];omega)
     rw[this,show b-a=0 by omega];exact .nil _ _ _
    .rw[if_neg ω];simp only[f9_,Hz];rw[<-D];refine .ro e' _ bb (off+a*G.sz e') (p-a) c te fz (λi j=>vs (a+i) j) hS h3 hm (by rw[D];omega) (λi j hi hj=>?_) (λi j x' cv Q h8=>?_)
     .rw[D]at hi;rw[<-R (a+i) j ω hj];congr 1;rw[a0_];omega
     .have hi:i<b-a:=by have:=(e_.1 Q).1;omega
      rw[c1_,B_ ω]at Q;exact h9 (a+i) j x' cv Q h8
  |_=>simp[I]at k
 |arr n e=>
  simp only[ht]at k;obtain⟨c,hc,k⟩:=aB k;obtain⟨hu,he⟩:=ok.arr t n e ht;unfold Ao4 at k;cases c with
  |ptr b off=>
   cases lo with
   |some _=>simp[I]at k
   |none=>
    cases hi with
    |some _=>simp[I]at k
    |none=>simp[J]at k;subst k;obtain⟨b',h3,hv⟩:=Hv hev hc;refine aE hr (v:=.slice (A ⟨b',off,C⟩) n n) ?_<|.one _ _ ⟨b',h3,rfl⟩;unfold execOp;rw[ho];simp[Instr.sliceAt,Instr.sliceBounds,hv,M_ hu w,ok.sizeOf w he,Instr.sureAddr,Hz]
  |_=>simp[I]at k
 |_=>simp[ht,I]at k
theorem Aeb{s:Nat}(F:o.op=.convert s t x)(hs:(!Oa (G.ty s))=N){c:Cv G.T}(R:ev x=A (.p<|.one c))(h1:Aae (G.ty t) c (O G) A=A out):Z P G ρ o ν S B h w out:=by
 have Q:∃d,P.underlying s=A d:=by
  cases r:G.ty s with
  |no=>simp[r,Oa]at hs
  |bool=>exact⟨_,ok.bool s r⟩
  |int k=>exact⟨_,ok.int s k r⟩
  |flt k=>exact⟨_,ok.flt s k r⟩
  |str=>exact⟨_,ok.str s r⟩
  |sl e=>exact⟨_,(ok.sl s e r).1⟩
  |pt e=>exact⟨_,ok.pt s e r⟩
  |fn=>obtain⟨a,b,c,D⟩:=ok.fn s r;exact⟨_,D⟩
  |st fs=>obtain⟨a,D,_⟩:=ok.strc s fs r;exact⟨_,D⟩
  |arr n e=>exact⟨_,(ok.arr s n e r).1⟩
 obtain⟨d,D⟩:=Q;unfold Aae at h1;cases c with
 |sc v=>
  have y:=(FG hev R).1;cases u:G.ty t with
  |int k=>
   cases v with
   |int k' n=>simp[u,J]at h1;subst h1;refine aA hr ?_ rfl;unfold execOp;rw[F];simp[Go.convert,y,M_ D w,M_ (ok.int t k u) w,Conv.intToInt]
   |_=>simp[u,I]at h1
  |str=>
   cases v with
   |string s'=>simp[u,J]at h1;subst h1;refine aA hr ?_ rfl;unfold execOp;rw[F];simp[Go.convert,y,M_ D w,M_ (ok.str t u) w]
   |_=>simp[u,I]at h1
  |flt k=>
   cases v with
   |int k' n=>simp[u,J]at h1;subst h1;refine aA hr ?_ rfl;unfold execOp;rw[F];simp[Go.convert,y,M_ D w,M_ (ok.flt t k u) w,Conv.intToFloat,Bbz]
   |_=>simp[u,I]at h1
  |_=>simp[u,I]at h1
 |_=>simp[I]at h1
end
end Go.Ab
namespace Go.Ab
variable{G:Sig}
def Awr{op:BinOp}{x y:Value}{R:Type}{k:Value->Option R}{r:R}(P:Program)(t:TypeId)(w:World)(h:bin op x y R k=A r) :
  ∃v,k v=A r/\Kg v=N/\(binOp op t x y).run P w=.ok v w:=by
 cases x with
 |int a m=>
  cases y with
  |int b n=>
   have D:∀(f:Int) ,(M.bind (M.need<|ER a b) λ_=>J<|Value.int a f) R k=A r->(a=b->(binOp op t (.int a m)<|.int b n).run P w=.ok (.int a f) w)->∃v,k v=A r/\Kg v=N/\(binOp op t (.int a m)<|.int b n).run P w=.ok v w:=by intro f hf Q;obtain⟨p,h1⟩:=L hf;exact⟨_,h1,rfl,Q<|Ho p⟩
   cases op with
   |add=>exact D _ h λe=>by subst e;simp[binOp,Op.intArith]
   |sub=>exact D _ h λe=>by subst e;simp[binOp,Op.intArith]
   |mul=>exact D _ h λe=>by subst e;simp[binOp,Op.intArith]
   |quo=>
    simp only[bin,Re]at h;obtain⟨p,h1⟩:=L h;obtain⟨hn,u⟩:=L h1;have e:=Ho p;subst e;have F:n≠0:=by simpa using hn
    exact⟨_,u,rfl,by simp[binOp,Op.intDiv,F]⟩
   |rem=>
    simp only[bin,Re]at h;obtain⟨p,h1⟩:=L h;obtain⟨hn,u⟩:=L h1;have e:=Ho p;subst e;have F:n≠0:=by simpa using hn
    exact⟨_,u,rfl,by simp[binOp,Op.intDiv,F]⟩
   |shl=>
    simp only[bin,Re]at h;obtain⟨p,h1⟩:=L h;obtain⟨q,hq,u⟩:=V h1;simp[shI]at hq;subst hq;have hb:¬n<0:=by simpa using p
    exact⟨_,u,rfl,by simp[binOp,Op.shift,hb]⟩
   |shr=>
    simp only[bin,Re]at h;obtain⟨p,h1⟩:=L h;obtain⟨q,hq,u⟩:=V h1;simp[shI]at hq;subst hq;have hb:¬n<0:=by simpa using p
    exact⟨_,u,rfl,by simp[binOp,Op.shift,hb]⟩
   |and|or|xor|andNot=>simp only[bin,Re]at h;obtain⟨p,h1⟩:=L h;obtain⟨q,hq,u⟩:=V h1;simp[As3,Lk]at hq;subst hq;have e:=Ho p;subst e;exact⟨_,u,rfl,by simp[binOp,Op.intBits]⟩
   |eql|neq|lss|leq|gtr|geq=>simp only[bin,Re]at h;obtain⟨p,h1⟩:=L h;obtain⟨q,hq,u⟩:=V h1;simp[WB]at hq;subst hq;have e:=Ho p;subst e;exact⟨_,u,rfl,by simp[binOp,Op.intCmp]⟩
  |_=>simp[bin,I]at h
 |float a m=>
  cases y with
  |float b n=>
   cases op with
   |add|sub|mul|quo=>simp only[bin,Ad0]at h;obtain⟨p,h1⟩:=L h;obtain⟨q,hq,u⟩:=V h1;have e:=Ag4 p;subst e;rw[Biv]at hq;simp only[arG]at hq;exact⟨_,u,rfl,by simp[binOp,Op.floatArith,hq]⟩
   |_=>simp only[bin,Ad0]at h;obtain⟨p,h1⟩:=L h;obtain⟨q,hq,u⟩:=V h1;have e:=Ag4 p;subst e;simp[Bkm]at hq<;>subst hq<;>exact⟨_,u,rfl,by simp[binOp,Op.floatCmp]⟩
  |_=>simp[bin,I]at h
 |string a=>
  cases y with
  |string b=>
   cases op with
   |add=>
    simp only[bin,Ad1]at h;obtain⟨p,h1⟩:=L h;refine⟨_,h1,rfl,?_⟩
    have:¬(((a.size+b.size:Nat):Int)>IntKind.i64.max):=by
     have u:=E_ p
     have:IntKind.i64.max=9223372036854775807:=rfl
     rw[this];omega
    simp only[binOp,Op.stringOp,if_neg this];rfl
   |eql|neq|lss|leq|gtr|geq=>exact⟨_,h,rfl,by simp[binOp,Op.stringOp,eqB,ltB]⟩
   |_=>simp[bin,Ad1,I]at h
  |_=>simp[bin,I]at h
 |_=>simp[bin,I]at h
def Arl{P:Program}{t:TypeId}(p:P.underlying t=A .bool)(a b:Bool)(w:World):(Op.equal t (.bool a)<|.bool b).run P w=.ok (a==b) w:=by
 have k:∀d:Nat,(Op.equalIn (d+1) t (.bool a)<|.bool b).run P w=.ok (a==b) w:=λd=>by simp[Op.equalIn,M_ p]
 exact k 9999
section
variable{P:Program}{ν:Nat->Option Value}{S B:Nat->Prop}{h:Nat->Option (W G.T)}{w:World}{ρ:Operand->Value}{o:Oper}
variable(ok:SigOK P G)(eqok:EqOK P G){ev:Operand->Option (Sv G.T)}(hev:∀x s,ev x=A s->Rs G ν S w.heap s (ρ x))(hr:HRel G ν S B h w)(hB:∀b,w.heap.size<=b->B b)
 {cf:Dc G}{nm:Nat}{out:O G}(hfresh:∀n∈out.nw,ν n=C)
include hev hr
theorem Bgj{op:UnOp}{t:Nat}{x:Operand}(r:o.op=.unOp op t x)(k:aUn ev op x (O G) A=A out):Z P G ρ o ν S B h w out:=by
 unfold aUn at k;obtain⟨c,y,h1⟩:=aB k;unfold unP at h1;cases c with
 |sc v=>
  have p:=(FG hev y).1;cases op<;>cases v<;>simp[I]at h1
  .simp[J]at h1;subst h1;refine aA hr ?_ rfl;unfold execOp;rw[r];simp[p,Op.unary,Op.intArith]
  .obtain⟨q,hq,u⟩:=V h1;simp[As3,Lk]at hq;subst hq;simp[J]at u;subst u;refine aA hr ?_ rfl;unfold execOp;rw[r];simp[p,Op.unary,Op.intBits]
  .simp[J]at h1;subst h1;refine aA hr ?_ rfl;unfold execOp;rw[r];simp[p,Op.unary]
 |_=>cases op<;>simp[I]at h1
include ok eqok
theorem Ban{op:BinOp}{t t':Nat}{x y:Operand}(ho:o.op=.binOp op t x y t')(hj:Yl ev op t x y (O G) A=A out):Z P G ρ o ν S B h w out:=by
 unfold Yl at hj;obtain⟨a,ha,h1⟩:=Sc hj;obtain⟨b,hb,D⟩:=Sc h1;unfold Bam at D;cases a with
 |one c=>
  cases b with
  |one d=>
   simp only[Bak]at D;cases h8:Aun d with
   |true=>
    rw[h8]at D;obtain⟨q,hq,h4⟩:=V D;have hd:d=.sc (.pointer C):=by
     unfold Aun at h8;split at h8
     .rfl
     .cases h8
    subst hd;have hu:=FG hev hb;have hc:=Hv hev ha;have hp:∃e p,G.ty t=.pt e/\ρ x=.pointer p/\p.isNone=q:=by
     unfold Bkf at hq;split at hq
     .rename_i e n off F;obtain⟨b',_,hv⟩:=hc;cases hq;exact⟨e,_,F,hv,rfl⟩
     .rename_i e F;cases hq;exact⟨e,C,F,(FG hev ha).1,rfl⟩
     .cases hq
    obtain⟨e,p,F,hv,x1⟩:=hp;have x4:P.underlying t=A (.pointer<|P.pointee t):=by have h:=ok.pt t e F;unfold Program.pointee;rw[h]
    have hg:(eqGuard op t x y (.pointer p)<|.pointer C).run P w=.ok () w:=by
     unfold eqGuard;cases op<;>simp
     all_goals rfl
    unfold Bal at h4;cases op with
    |eql=>simp[J]at h4;subst h4;subst x1;refine aA hr ?_ rfl;unfold execOp;rw[ho];simp[hv,hu.1,hg,run_eql_pointer_nil w t p x4]
    |neq=>simp[J]at h4;subst h4;subst x1;refine aA hr ?_ rfl;unfold execOp;rw[ho];simp[hv,hu.1,hg,run_neq_pointer_nil w t p x4]
    |_=>simp[I]at h4
   |false=>
   rw[h8,j_]at D;cases c with
   |sc v=>
    cases d with
    |sc u=>
     simp only at D;have hv:=FG hev ha;have hu:=FG hev hb;have xa:v≠ .nilIface:=by rintro rfl;unfold Al9 at D;generalize G.ty t=y at D;cases y<;>simp[bin,M.bind,I]at D
     have hg:(eqGuard op t x y v u).run P w=.ok () w:=by
      unfold eqGuard;cases op<;>simp
      all_goals cases v<;>simp[Kg]at hv<;>(try exact absurd rfl xa)<;>(try(cases u<;>simp[Kg]at hu))<;>rfl
     have hm:∀r,out=outV r->Kg r=N->(binOp op t v u).run P w=.ok r w->Z P G ρ o ν S B h w out:=by rintro r rfl xf h6;refine aA hr ?_ xf;unfold execOp;rw[ho];simp[hv.1,hu.1,hg,h6]
     have xc:(M.bind (bin op v u) λr=>J<|outV r) (O G) A=A out->Z P G ρ o ν S B h w out:=by intro hh;obtain⟨r,R,h4,h5⟩:=Awr P t w<|aC hh;simp[J]at R;exact hm r R.symm h4 h5
     by_cases x0:∃a' b',G.ty t=.bool/\v=.bool a'/\u=.bool b'
     .obtain⟨a',b',F,rfl,rfl⟩:=x0;have ht:=ok.bool t F;simp only[Al9,F]at D;cases op<;>simp[I]at D
      .simp[J]at D;exact hm _ D.symm rfl (by simp only[binOp];simp[Arl ht])
      .simp[J]at D;exact hm _ D.symm rfl (by simp only[binOp];simp[Arl ht])
     .refine xc ?_;unfold Al9 at D;generalize F:G.ty t=y at D;cases y with
      |bool=>
       cases v<;>try exact D
       cases u<;>try exact D
       exact absurd ⟨_,_,F,rfl,rfl⟩ x0
      |_=>exact D
    |_=>simp[I]at D
   |_=>cases d<;>simp[I]at D
  |agg Q=>simp[I]at D
 |agg cs=>
  cases b with
  |one d=>simp[I]at D
  |agg Q=>
   simp only at D;obtain⟨h9,R⟩:=L D;obtain⟨q,hq,h4⟩:=V R;simp only[b_,Bjj]at h9;obtain⟨hi,⟨F,hw⟩,x7⟩:=h9;have x2:=TK hev ha;have hs:=TK hev hb;generalize hu:ρ x=u at x2;generalize hf:ρ y=u' at hs;cases x2 with
   |agg _ vs h7=>
   cases hs with
   |agg _ us he=>
   have xe:∀(cs Q:List<|Cv G.T) (vs us:List Value) (q:Bool),F2 (Rc G ν S w.heap) cs vs->F2 (Rc G ν S w.heap) Q us->Hn cs Q=A q->Mj vs us=A q:=by
    intro cs;induction cs with
    |nil=>
     intro Q vs us q h1 D R;cases Q with
     |nil=>simp[Hn]at R;rw[h1.inv_nil,D.inv_nil,R];rfl
     |cons d Q=>simp[Hn]at R
    |cons c cs ih=>
     intro Q vs us q h1 D R;cases Q with
     |nil=>cases c<;>simp[Hn]at R
     |cons d Q=>
      obtain⟨v,hl,rfl,hv,h7⟩:=h1.inv;obtain⟨u,x9,rfl,hu,he⟩:=D.inv;cases c with
      |sc v0=>
       cases d with
       |sc u0=>
        have ev:v=v0:=by have hn:Rd G S w.heap (.sc v0) v:=hv;cases hn;rfl
        have eu:u=u0:=by have hf:Rd G S w.heap (.sc u0) u:=hu;cases hf;rfl
        subst ev;subst eu;simp only[Hn]at R;split at R
        .rename_i x' y' hx hy
         have:=ih Q hl x9 y' h7 he hy
         simp at R;simp[Mj,hx,this,R]
        .simp at R
       |_=>simp[Hn]at R
      |_=>simp[Hn]at R
   have x5:=xe cs Q vs us q h7 he hq;have x3:∀(cs:List<|Cv G.T) (vs:List Value) (ks:List Nat),F2 (Rc G ν S w.heap) cs vs->IG (DS Ae1 cs) ks=N->(∀k∈ks,k≠0)->DS BO vs=ks:=by
    intro cs;induction cs with
    |nil=>intro vs ks h1 D _;rw[h1.inv_nil];cases ks<;>simp[DS,IG]at D|-
    |cons c cs ih=>
     intro vs ks h1 D R;obtain⟨v,hl,rfl,hv,h7⟩:=h1.inv;cases ks with
     |nil=>simp[DS,IG]at D
     |cons k ks=>
      simp only[DS,IG,b_]at D|-;have hk:Ae1 c=k:=AQ.1 D.1;have x6:=R k σ;cases c with
      |sc v0=>
       have ev:v=v0:=by have hn:Rd G S w.heap (.sc v0) v:=hv;cases hn;rfl
       subst ev;rw[ih hl ks h7 D.2 λk' xb=>R k' (by simp[xb])];have hk:BO v=k:=hk;rw[hk]
      |_=>exact absurd hk.symm x6
   have hz:∀k∈zk G t,k≠0:=by
    have xd:∀(cs Q:List<|Cv G.T) (q:Bool) (ks:List Nat),Hn cs Q=A q->IG (DS Ae1 cs) ks=N->∀k∈ks,k≠0:=by
     intro cs;induction cs with
     |nil=>intro Q q ks _ D k hk;cases ks<;>simp[DS,IG]at D hk
     |cons c cs ih=>
      intro Q q ks h1 D k hk;cases ks with
      |nil=>simp at hk
      |cons k0 ks=>
       simp only[DS,IG,b_]at D;cases Q with
       |nil=>cases c<;>simp[Hn]at h1
       |cons d Q=>
        cases c with
        |sc v0=>
         cases d with
         |sc u0=>
          simp only[Hn]at h1;split at h1
          .rename_i x' y' hx hy;rcases A_.1 hk with rfl|hk
           .have h0:BO v0=k:=AQ.1 D.1;intro x8;rw[x8]at h0;cases v0 with
            |float k' n=>cases k'<;>simp[BO]at h0
            |int k' n=>cases k'<;>simp[BO]at h0
            |bool b=>simp[BO]at h0
            |string b=>simp[BO]at h0
            |_=>simp[eqV]at hx
           .exact ih Q y' ks hy D.2 k hk
          .simp at h1
         |_=>simp[Hn]at h1
        |_=>simp[Hn]at h1
    exact xd cs Q q _ hq hw
   have h6:=eqok.eq t vs us q w hi F (x3 cs vs _ h7 hw hz) (x3 Q us _ he x7 hz) x5;have hg:(eqGuard op t x y (.agg vs.toArray)<|.agg us.toArray).run P w=.ok () w:=by unfold eqGuard;cases op<;>simp[eqok.guard t hi]
   cases op with
   |eql=>simp[J]at h4;subst h4;refine aA hr (v:=.bool q) ?_ rfl;unfold execOp;rw[ho];simp[hu,hf,hg,binOp,h6]
   |neq=>simp[J]at h4;subst h4;refine aA hr (v:=.bool<|!q) ?_ rfl;unfold execOp;rw[ho];simp[hu,hf,hg,binOp,h6]
   |_=>simp[I]at h4
end
end Go.Ab
namespace Go.Ab
variable{G:Sig}
variable{q:Cv G.T×List Nat}{fz:List Nat}{v:Value}
def Of:∀(l:List Nat) (h:Nat->Option (W G.T)) (n:Nat),BB h (MH l) n=if n∈l then C else h n
 |[],h,n=>by simp[MH,BB]
 |m::t,h,n=>by
  simp only[MH,BB,Of t];by_cases h1:n∈t
  .simp[h1]
  .by_cases k:n=m
   .simp[k]
   .simp[h1,k,a7_ k]
def YY(h:Ro v=N):v=.slice C 0 0:=by
 unfold Ro at h;split at h
 .rfl
 .simp at h
def WA{t k:Nat}{l:List<|G.T t}{p:List<|G.T k}(h:OV G t k l=A p):∃e:t=k,e▸l=p:=by
 unfold OV at h;split at h
 .rename_i e;simp at h;exact⟨e,h⟩
 .simp at h
def Ab2(h:Nat->Option (W G.T)):∀(d e:List<|Nat×Option (W G.T)),BB h (d++e)=BB (BB h d) e
 |[],_=>rfl
 |p::d,e=>by obtain⟨n,ob⟩:=p;exact Ab2 _ d e
section
variable{ν:Nat->Option Value}{S B:Nat->Prop}{h:Nat->Option (W G.T)}{w:World}
def TA(ν:Nat->Option Value)(S:Nat->Prop)(h:Nat->Option (W G.T))(fz:List Nat)(b:Nat):Prop:=S b\/∃n∈fz,h n≠C/\∃y,ν n=A y/\AX y=A b
def HRel.frz(hr:HRel G ν S B h w)(fz:List Nat):HRel G ν (TA ν S h fz) B (BB h<|MH fz) w:=by
 have p:∀n,BB h (MH fz) n≠C->n∉fz/\h n≠C:=by
  intro n r;rw[Of]at r;by_cases e:n∈fz
  .simp[e]at r
  .rw[if_neg e]at r;exact⟨e,r⟩
 refine⟨λn k Q=>?_,λn m x y b r hm=>hr.apart n m x y b (p n r).2 (p m hm).2,λn x b r R F=>⟨?_,(hr.own n x b (p n r).2 R F).2⟩,λb F=>?_,hr.gl.mono (λ_ h=>.inl h) λ_ _=>rfl⟩
 .have r:=p n (by rw[Q];simp);rw[Of,if_neg r.1]at Q;exact(hr.blk n k Q).mono ⟨λ_ _ h=>h,λ_ h=>.inl h,λ_ _=>rfl⟩ λ_ _ _ _=>rfl
 .rintro(hS|⟨m,hm,u,y,hy,D⟩)
  .exact(hr.own n x b (p n r).2 R F).1 hS
  .have:=hr.apart n m x y b (p n r).2 u R hy F D
   subst this;exact(p n r).1 hm
 .rcases F with hS|⟨m,_,u,y,hy,D⟩
  .exact hr.stay b hS
  .exact hr.lt u hy D
def Bbh(hr:HRel G ν S B h w){b:Nat}(u:TA ν S h fz b):S b\/B b:=by
 rcases u with r|⟨m,_,k,y,D,p⟩
 .exact .inl r
 .exact .inr (hr.own m y b k D p).2
def Post.frz{out out1:O G}{u:Nat->Option (W G.T)}{ν':Nat->Option Value}{S':Nat->Prop}{w':World}(hr:HRel G ν S B h w)(F:out.v=out1.v)(k:out.nw=out1.nw)
  (p:Post G ν (TA ν S h fz) B (BB h<|MH fz) w out1 u ν' S' w' v):Post G ν S B h w out u ν' S' w' v:=by
 refine⟨p.nu,by rw[k];exact p.new,λb r=>p.st b<|.inl r,λb r=>?_,p.rel,by rw[F];exact p.val,p.size,λb r D=>p.frame b r λn x k y=>D n x ?_ y,p.env⟩
 .rcases p.stn b r with h1|h1
  .exact Bbh hr h1
  .exact .inr h1
 .rw[Of]at k;by_cases e:n∈fz
  .simp[e]at k
  .rwa [if_neg e]at k
def Axk(hr:HRel G ν S B h w){y c:Cv G.T}(hq:Aha h y c=A q)(R:∀n∈q.2,n∈fz)(p:Rc G ν S w.heap c v):Rc G ν (TA ν S h fz) w.heap q.1 v:=by
 have F:∀{c:Cv G.T},Rc G ν S w.heap c v->Rc G ν (TA ν S h fz) w.heap c v:=λr=>r.mono ⟨λ_ _ h=>h,λ_ h=>.inl h,λ_ _=>rfl⟩;unfold Aha at hq;split at hq
 .rename_i e l0 n;split at hq
  .rename_i t l hn;split at hq
   .rename_i l' hl;obtain⟨rfl,rfl⟩:=WA hl;simp at hq;subst hq;obtain⟨av,len,D,k,rfl⟩:=p;rcases hr.blk n _ hn with⟨h1,h2⟩|⟨b,h8,c,te,h1,h2,h3,h4,h5⟩
    .rw[k]at h1;simp at h1;obtain⟨rfl,rfl,rfl⟩:=h1;subst h2;exact Rd.nil _ _ _
    .rw[k]at h1;simp at h1;obtain⟨rfl,rfl,rfl⟩:=h1;have h7:TA ν S h fz b:=.inr ⟨n,R n σ,by rw[hn];simp,_,k,rfl⟩;show Rd G (TA ν S h fz) w.heap (.ro t l) _;refine .ro t l b 0 D c te (0,0) (λi j=>c.getD (i*G.sz t+j) undef) h7 h2 (.inl h5.2.1) h3 (λi j hi hj=>?_) (λi j x cv hx Q=>?_)
     .have F:(i+1)*G.sz t<=D*G.sz t:=w_ _ ω;rw[a0_]at F;have h6:i*G.sz t+j<c.size:=ω;rw[n_];simp[h6]
     .obtain⟨v,hv,h0⟩:=h5.1 i j x cv hx Q
      have:c.getD (i*G.sz t+j) undef=v:=by rw[v_,hv];rfl
      rw[this];exact h0.mono (λ_ h=>.inl h) λ_ _=>rfl
   .simp at hq
  .simp at hq
 .rename_i e l0 u;simp at hq;subst hq;cases hk:Ro u with
  |false=>exact F p
  |true=>
   have hu:=YY hk;subst hu;have hv:v=.slice C 0 0:=by have p:Rd G S w.heap (.sc<|.slice C 0 0) v:=p;cases p;rfl
   subst hv;exact Rd.nil _ _ _
 .simp at hq;subst hq;exact F p
def YT(hr:HRel G ν S B h w):∀{u cs:List<|Cv G.T}{q:List (Cv G.T)×List Nat},Pd h u cs=A q->∀{fz:List Nat},(∀n∈q.2,n∈fz)->∀{vs:List Value},F2 (Rc G ν S w.heap) cs vs->F2 (Rc G ν (TA ν S h fz) w.heap) q.1 vs
 |[],[],q,hq,_,_,vs,p=>by simp[Pd]at hq;subst hq;rw[p.inv_nil];exact .nil
 |R::u,c::cs,q,hq,fz,k,vs,p=>by
  unfold Pd at hq;split at hq
  .rename_i a b D F;simp at hq;subst hq;obtain⟨y,t,rfl,h1,Q⟩:=p.inv;exact .cons (Axk hr D (λn r=>k n (by simp[r])) h1)<|YT hr F (λn r=>k n (by simp[r])) Q
  .simp at hq
 |[],_::_,_,hq,_,_,_,_=>by simp[Pd]at hq
 |_::_,[],_,hq,_,_,_,_=>by simp[Pd]at hq
end
def Bbg{h h':Nat->Option (W G.T)}{k c:Cv G.T}(hq:Aha h k c=A q)(hh:∀n∈q.2,h' n=h n):Aha h' k c=A q:=by
 unfold Aha at hq|-;split at hq
 .rename_i e u n;split at hq
  .rename_i t l r;split at hq
   .rename_i y p;simp at hq;subst hq;rw[hh n σ,r];simp only[p]
   .simp at hq
  .simp at hq
 .exact hq
 .exact hq
def Ack{h h':Nat->Option (W G.T)}:∀{k cs:List<|Cv G.T}{q:List (Cv G.T)×List Nat},Pd h k cs=A q->(∀n∈q.2,h' n=h n)->Pd h' k cs=A q
 |[],[],q,hq,_=>by simpa[Pd]using hq
 |y::k,c::cs,q,hq,hh=>by
  unfold Pd at hq|-;split at hq
  .rename_i a b r u;simp at hq;subst hq;rw[Bbg r λn p=>hh n (by simp[p]),Ack u λn p=>hh n (by simp[p])]
  .simp at hq
 |[],_::_,_,hq,_=>by simp[Pd]at hq
 |_::_,[],_,hq,_=>by simp[Pd]at hq
end Go.Ab
namespace Go.Ab
variable{G:Sig}
variable{parts:Array (Nat×Operand)}{t e:Nat}{hh:Array Obj}{z:Value}
def Ai2(off:Nat):∀(vs:List Value) (k:Nat) (cs:Array Value),off+k+vs.length<=cs.size->
  ((vs.zipIdx k).foldl (λ(cs:Array Value) p=>cs.setIfInBounds (off+p.2) p.1) cs).size=cs.size/\
  ∀j,((vs.zipIdx k).foldl (λ(cs:Array Value) p=>cs.setIfInBounds (off+p.2) p.1) cs)[j]?=if off+k<=j/\j<off+k+vs.length then vs[j-(off+k)]? else cs[j]?
 |[],k,cs,_=>by simp;intro j h1 r;omega
 |v::vs,k,cs,h=>by
  simp only[D_]at h;obtain⟨h1,r⟩:=Ai2 off vs (k+1) (cs.setIfInBounds (off+k) v) (by simp;omega);simp only[List.zipIdx_cons,List.foldl_cons,D_];refine⟨by rw[h1];simp,λj=>?_⟩;rw[r j];simp only[g0_];by_cases u:off+k=j
  .subst u;rw[if_neg ω,if_pos rfl,if_pos ω,if_pos ω];simp
  .by_cases hr:off+(k+1)<=j/\j<off+(k+1)+vs.length
   .rw[if_pos hr,if_pos ω,show j-(off+k)=(j-(off+(k+1)))+1 by omega];simp
   .rw[if_neg hr,if_neg u,if_neg ω]
def Sq{R:Cv G.T->Value->Prop}{D:Nat->Option (Nat×Nat)}:∀(ps:List<|Nat×Pv G.T) (qs:List<|Nat×Value) (cells:List<|Cv G.T) (cs:Array Value) (k:List<|Cv G.T),
  F2 R cells cs.toList->F2 (λp q=>p.1=q.1/\F2 R p.2.cells q.2.cells.toList) ps qs->WS D cells ps=A k->
  ∃F,Instr.fill D cs qs=A F/\F2 R k F.toList
 |[],qs,cells,cs,k,hc,hp,h=>by simp[WS]at h;subst h;rw[hp.inv_nil];exact⟨cs,rfl,hc⟩
 |(i,v)::ps,qs,cells,cs,k,hc,hp,h=>by
  obtain⟨⟨j,u⟩,h6,rfl,⟨rfl,h0⟩,h7⟩:=hp.inv;simp only[WS]at h;split at h
  .rename_i off size h4;rw[Bs]at h;by_cases hs:v.cells.length=size
   .rw[if_pos hs]at h;split at h
    .rename_i r h3;obtain⟨s1,s2,s3⟩:=Jv _ _ _ _ h3;have hl:=hc.1;have h5:=h0.1;simp only[Array.length_toList]at hl h5;have hF:=Ai2 off u.cells.toList 0 cs (by simp;omega);have Q:F2 R r ((u.cells.toList.zipIdx).foldl (λ(cs:Array Value) p=>cs.setIfInBounds (off+p.2) p.1) cs).toList:=by
      refine⟨(by rw[s1,hl];exact hF.1.symm),λq x y hx hy=>?_⟩;rw[s3 q]at hx;rw[Array.getElem?_toList,hF.2 q]at hy;by_cases hq:off<=q/\q<off+v.cells.length
      .rw[if_pos hq]at hx;rw[if_pos (by simp;omega)]at hy;exact h0.2 _ x y hx (by simpa using hy)
      .rw[if_neg hq]at hx;rw[if_neg (by simp;omega)]at hy;exact hc.2 q x y hx (by simpa using hy)
     obtain⟨F,h1,h2⟩:=Sq ps h6 r _ k Q h7 h;refine⟨F,?_,h2⟩;simp only[Instr.fill,h4];rw[if_neg (by simp;omega)];rw[<-h1];congr 1;rw[<-Array.foldl_toList];simp
    .simp at h
   .rw[if_neg hs]at h;simp at h
  .simp at h
def ZB{P:Program}(ok:SigOK P G){e:Nat}:∀(n:Nat) (cs:List<|Cv G.T) (l:List<|G.T e),Cs G e n cs=A l->
  l.length=n/\cs.length=n*G.sz e/\∀(i j:Nat) x,l[i]?=A x->j<(G.enc e x).length->(G.enc e x)[j]?=cs[i*G.sz e+j]?
 |0,[],l,h=>by simp[Cs]at h;subst h;simp
 |0,_::_,l,h=>by simp[Cs]at h
 |n+1,cs,l,h=>by
  simp only[Cs]at h;split at h
  .rename_i a b r hb;split at h
   .rename_i x l' Q F;simp at h;subst h;obtain⟨t1,t2,t3⟩:=XK _ _ _ r;obtain⟨d1,u⟩:=WJ _ _ _ hb;obtain⟨r1,r2,D⟩:=ZB ok n b l' F;have R:=ok.encdec _ _ _ Q;refine⟨by simp[r1],by rw[a0_];omega,λi j y k p=>?_⟩;cases i with
    |zero=>simp at k;subst k;rw[R]at p|-;rw[t3 j ω];simp
    |succ i=>simp at k;rw[D i j y k p,u];congr 1;rw[a0_];omega
   .simp at h
  .simp at h
section
variable{P:Program}{ν:Nat->Option Value}{S B:Nat->Prop}{h:Nat->Option (W G.T)}{w:World}{ρ:Operand->Value}{o:Oper}
variable(ok:SigOK P G){ev:Operand->Option (Sv G.T)}(hev:∀x s,ev x=A s->Rs G ν S w.heap s (ρ x))(hr:HRel G ν S B h w)(hB:∀b,w.heap.size<=b->B b)
 {cf:Dc G}{nm:Nat}{out:O G}(hfresh:∀n∈out.nw,ν n=C)
include hev
theorem Zu{l:List<|Nat×Operand}{r:List<|Nat×Pv G.T}(u:F2 (λx y=>x.1=y.1/\ev x.2=A (.p y.2)) l r) :
  F2 (λ(p:Nat×Pv G.T) (q:Nat×Value)=>p.1=q.1/\F2 (Rc G ν S w.heap) p.2.cells q.2.cells.toList) r (l.map λp=>(p.1,ρ p.2)):=by
 refine⟨by simp[u.1],λi y q F hq=>?_⟩;rw[b3_]at hq;cases k:l[i]? with
 |none=>simp[k]at hq
 |some x=>simp[k]at hq;subst hq;obtain⟨h1,D⟩:=u.2 i x y k F;exact⟨h1.symm,TM<|TK hev D⟩
omit hev in
include ok in
theorem Aj8(r:z.cells.toList=G.zero t):F2 (Rc G ν S w.heap) (Gp G t) z.cells.toList:=by rw[r,Gp];exact F2.map_left ⟨rfl,λi x y p k=>by rw[p]at k;simp at k;subst k;exact .sc _<|ok.zsc t x<|p_ p⟩
include hr ok
theorem As7(ho:o.op=.build t parts)(p:QT ev t parts.toList (O G) A=A out):Z P G ρ o ν S B h w out:=by
 unfold QT at p;cases Q:G.ty t with
 |st fs=>
  simp only[Q]at p;obtain⟨ps,h1,D⟩:=Uj p;obtain⟨cs,F,h2⟩:=V h1;simp[J]at h2;subst h2;obtain⟨k,hu,h3,h4⟩:=ok.strc t fs Q;obtain⟨z,hz,R⟩:=ok.zeroV w (show G.ty t≠ .no by rw[Q];simp);obtain⟨r,hf,hF⟩:=Sq ps _ (Gp G t) z.cells cs (Aj8 ok R) (Zu hev D) F;refine aE hr (v:=.agg r.toList.toArray) ?_<|.agg _ _ hF;have h5:∀(l:List Field) (w:World),(∀f∈l,G.ty f.type≠ .no)->(l.mapM (λf=>(do pure (f.offset,<-sizeOf f.type):Sem<|Nat×Nat))).run P w=.ok (l.map λf=>(f.offset,G.sz f.type)) w:=by
   intro l;induction l with
   |nil=>intro w _;rfl
   |cons f l ih=>intro w hl;simp only[List.mapM_cons,K_,ok.sizeOf w<|hl f σ,u_,a2_,ih w (λg hg=>hl g (by simp[hg])),List.map_cons]
  have h0:∀f∈k.toList,G.ty f.type≠ .no:=by intro f u;refine h4 f.offset f.type ?_;rw[<-h3];exact b6_.2 ⟨f,u,rfl⟩
  have hM:(k.mapM (λf=>(do pure (f.offset,<-sizeOf f.type):Sem<|Nat×Nat))).run P w=.ok (k.toList.map λf=>(f.offset,G.sz f.type)).toArray w:=by rw[Array.mapM_eq_mapM_toList];simp only[Sem.run_map,h5 _ w h0,u_]
  have y:(λi=>(k.toList.map λf=>(f.offset,G.sz f.type)).toArray[i]?)=Afd G fs:=by funext i;rw[<-h3];unfold Afd;rw[b3_];simp;cases k[i]?<;>rfl
  unfold execOp;rw[ho];simp only[Instr.build,K_,hz,u_,M_ hu w,hM,y];have u:Instr.fill (Afd G fs) z.cells (parts.map λ(i,x)=>(i,ρ x)).toList=A r:=by rw[g9_];exact hf
  rw[u];simp
 |arr n e=>
  simp only[Q]at p;obtain⟨ps,h1,D⟩:=Uj p;obtain⟨cs,F,h2⟩:=V h1;simp[J]at h2;subst h2;obtain⟨hu,he⟩:=ok.arr t n e Q;obtain⟨z,hz,R⟩:=ok.zeroV w (show G.ty t≠ .no by rw[Q];simp);obtain⟨r,hf,hF⟩:=Sq ps _ (Gp G t) z.cells cs (Aj8 ok R) (Zu hev D) F;refine aE hr (v:=.agg r.toList.toArray) ?_<|.agg _ _ hF;unfold execOp;rw[ho];have u:Instr.fill (λi=>A (i*G.sz e,G.sz e)) z.cells (parts.map λ(i,x)=>(i,ρ x)).toList=A r:=by rw[g9_];exact hf
  simp only[Instr.build,K_,hz,u_,M_ hu w,ok.sizeOf w he];rw[u];simp
 |_=>simp[Q,I]at p
omit hev hr
theorem Bf9{n:Nat}{cs:List<|Cv G.T}{l:List<|G.T e}(y:Cs G e n cs=A l){c:Array Value}(F:F2 (Rc G ν S hh) cs c.toList):Bh4 G S hh e l c:=by intro i j x R D k;obtain⟨r1,r2,r⟩:=ZB ok n cs l y;have u:j<(G.enc e x).length:=(e_.1 k).1;have h1:=r i j x D u;rw[k]at h1;obtain⟨v,Q,p⟩:=F.get h1.symm;exact⟨v,by simpa using Q,Aoq ok (p_ k) p⟩
theorem Af9(hz:z.cells.toList=G.zero e)(u:0<G.sz e):∀n,F2 (Rc G ν S hh) (Py G e n) (((aG<|n*G.sz e).map (z.cells[· %z.cells.size]!))).toList:=by
 have p:z.cells.size=G.sz e:=by rw[<-ok.zlen e,<-hz];simp
 have k:∀n,(Py G e n).length=n*G.sz e:=by
  intro n;induction n with
  |zero=>simp[Py]
  |succ n ih=>simp[Py,ih,Gp,ok.zlen e,a0_];omega
 have F:∀n j,j<n*G.sz e->(Py G e n)[j]?=(G.zero e)[j%G.sz e]?.map .sc:=by
  intro n;induction n with
  |zero=>intro j Q;omega
  |succ n ih=>
   intro j Q;rw[Py,g6_];have h0:(Gp G e).length=G.sz e:=by simp[Gp,ok.zlen e]
   by_cases R:j<G.sz e
   .rw[if_pos ω,g7_ R];simp[Gp]
   .have h1:=Nat.succ_mul n<|G.sz e;have h2:j-G.sz e<n*G.sz e:=by rw[Nat.succ_eq_add_one]at h1;omega
    rw[if_neg ω,h0,ih (j-G.sz e) h2];rw[Nat.mod_eq_sub_mod (a:=j) ω]
 intro n;refine⟨by simp[k n],λj x y D hy=>?_⟩;have Q:j<n*G.sz e:=by have:=(e_.1 D).1;rw[k]at this;exact this
 rw[F n j Q]at D;have hm:j%G.sz e<G.sz e:=g4_ _ u;have r:(G.zero e)[j%G.sz e]?=A z.cells[j%z.cells.size]!:=by rw[<-hz,p];simp[p,hm]
 rw[r]at D;simp at D;subst D;simp[Q]at hy;subst hy;exact .sc _<|ok.zsc e _<|p_ r
include hev hr hB hfresh
theorem Ad3{len:Nat}(ho:o.op=.buildSlice t len parts)(u:EY ev h nm t len parts.toList (O G) A=A out):Z P G ρ o ν S B h w out:=by
 unfold EY at u;cases ht:G.ty t with
 |sl e=>
  simp only[ht]at u;obtain⟨ps,h1,hb⟩:=Uj u;obtain⟨D,h2⟩:=L h1;obtain⟨cs,hd,Q⟩:=V h2;obtain⟨hu,he,⟨i,hi,hp⟩,_⟩:=ok.sl t e ht;obtain⟨z,hz,hj⟩:=ok.zeroV w he;have ha:=ok.pos _ he;obtain⟨r,hf,h5⟩:=Sq ps _ (Py G e len) _ cs (Af9 ok hj ha len) (Zu hev hb) hd;simp only[b_]at D;have hk:len*G.sz e<=16777216:=E_ D.2;have hn:len<=65536:=E_ D.1;have y:(execOp ρ o).run P w=.ok (.value<|.slice (A ⟨w.heap.size,0,C⟩) len len) { w with heap:=w.heap.push (.cells r e) }:=by
   unfold execOp;rw[ho];simp only[Instr.buildSlice,K_,M_ hu w,u_,ok.sizeOf w he];rw[if_neg (ω:¬(len*G.sz e>2^24))];have h8:Instr.fill (λi=>A (i*G.sz e,G.sz e)) ((aG<|len*G.sz e).map (z.cells[· %z.cells.size]!)) (parts.map λ(i,x)=>(i,ρ x)).toList=A r:=by rw[g9_];exact hf
   by_cases h0:len*G.sz e=0
   .have hg:(aG<|len*G.sz e).map ((#[]:Array Value)[· %(#[]:Array Value).size]!)=(aG<|len*G.sz e).map (z.cells[· %z.cells.size]!):=by simp[h0]
    rw[if_pos h0];simp only[K_,a2_,u_];rw[hg,h8];simp[newRow]
   .rw[if_neg h0];simp only[K_,hz,a2_,u_];rw[h8];simp[newRow]
  unfold We at Q;cases h9:YX (G.ty e)with
  |true=>
  rw[h9]at Q;obtain⟨hc,h4⟩:=L Q;simp[J]at h4;subst h4;have F:=hfresh nm σ;refine⟨.value<|.slice (A ⟨w.heap.size,0,C⟩) len len,{ w with heap:=w.heap.push (.cells r e) },_,ext ν nm<|.pointer<|A ⟨w.heap.size,0,C⟩,S,y,.inl rfl,?_⟩;refine Post.alloc (k:=.cells cs) (c:=r) (te:=e) (w':={ w with heap:=w.heap.push (.cells r e) }) hr hB F rfl rfl rfl rfl ⟨rfl,rfl,rfl⟩ ⟨w.heap.size,r,e,EB,σ,?_,λm t' hm=>(Zp hc hm).elim⟩ λs R=>?_
  .exact h5.mono λ_ _=>Rc.mono<|Ahg _ hr F
  .simp at R;subst R;exact .p _ _<|.one _ _ ⟨w.heap.size,EB,rfl⟩
  |false=>
  rw[h9]at Q;obtain⟨q,hq,Q⟩:=V Q;obtain⟨l,hl,h4⟩:=V Q;simp[J]at h4;subst h4;have h6:=hr.frz q.2;have hF:=YT hr hq (λ_ h=>h) h5;obtain⟨r1,r2,r3⟩:=ZB ok len q.1 l hl;have h7:r.size=len*G.sz e:=by have:=hF.1;simp at this;omega
  have F:=hfresh nm σ;refine⟨.value<|.slice (A ⟨w.heap.size,0,C⟩) len len,{ w with heap:=w.heap.push (.cells r e) },_,ext ν nm<|.slice (A ⟨w.heap.size,0,C⟩) len len,TA ν S h q.2,y,.inl rfl,?_⟩
  .have hx:ext ν nm (.slice (A ⟨w.heap.size,0,C⟩) len len) nm=A (.slice (A ⟨w.heap.size,0,C⟩) l.length len):=by rw[EB,r1]
   rw[Ab2];refine Post.frz (fz:=q.2) (out1:=⟨A<|.p<|.one<|.own nm,[(nm,A<|.row e l)],[nm],q.2⟩) hr rfl rfl (Post.alloc (k:=.row e l) (c:=r) (te:=e) (w':={ w with heap:=w.heap.push (.cells r e) }) (out:=⟨A<|.p<|.one<|.own nm,[(nm,A<|.row e l)],[nm],q.2⟩) h6 hB F rfl rfl rfl rfl ⟨rfl,rfl,rfl⟩
    (.inr ⟨w.heap.size,len,r,e,hx,σ,ω,h7,?_,rfl,by unfold maxLen;omega⟩) λs R=>?_)
   .exact Bf9 ok (ν:=ext ν nm<|.slice (A ⟨w.heap.size,0,C⟩) len len) hl (hF.mono λ_ _=>Rc.mono<|Ahg _ h6 F)
   .simp at R;subst R;exact .p _ _<|.one _ _ ⟨_,_,_,EB,rfl⟩
 |_=>simp[ht,I]at u
theorem Ahl{x y:Operand}(ho:o.op=.makeSlice t x y)(r:Jk ev nm t x y (O G) A=A out):Z P G ρ o ν S B h w out:=by
 unfold Jk at r;cases ht:G.ty t with
 |sl e=>
  simp only[ht]at r;obtain⟨kn,n,hn,h1⟩:=Ae r;obtain⟨km,m,hm,h2⟩:=Ae h1;obtain⟨hb,h3⟩:=L h2;obtain⟨z,hz,h4⟩:=V h3;simp[J]at h4;subst h4;obtain⟨hu,he,⟨i,hi,x0⟩,_⟩:=ok.sl t e ht;obtain⟨i',R,h6,hg,hf,h7⟩:=ok.info e he;rw[hi]at h6;simp at h6;subst h6;have hc:=ok.pos _ he;simp[An1]at hb;obtain⟨⟨hp,hk⟩,h9⟩:=hb;have hy:m<=2147483648:=k_ h9;have h8:=(FG hev hn).1;have hd:=(FG hev hm).1;have F:(i.bytes:Int)*m<=281474976710656:=by have h1:(i.bytes:Int)*m<=4096*m:=Int.mul_le_mul_of_nonneg_right ω ω;omega
  have Q:=run_make (P:=P) w t e i R hu hi hf kn km n m hp hk F ω;have hv:=hfresh nm σ;rw[hg]at Q;refine⟨.value<|.slice (A ⟨w.heap.size,0,C⟩) n.toNat m.toNat,w.alloc<|.cells (madeCells R.cells<|m.toNat*G.sz e) e,_,ext ν nm<|.slice (A ⟨w.heap.size,0,C⟩) n.toNat m.toNat,S,?_,.inl rfl,?_⟩
  .unfold execOp;rw[ho];simp[h8,hd,Q]
  .have hx:ext ν nm (.slice (A ⟨w.heap.size,0,C⟩) n.toNat m.toNat) nm=A (.slice (A ⟨w.heap.size,0,C⟩) (List.replicate n.toNat z).length m.toNat):=by rw[EB];simp
   refine Post.alloc (k:=.row e<|List.replicate n.toNat z) (c:=madeCells R.cells<|m.toNat*G.sz e) (te:=e) (w':=w.alloc<|.cells (madeCells R.cells<|m.toNat*G.sz e) e) hr hB hv rfl rfl rfl rfl ⟨rfl,rfl,rfl⟩
    (.inr ⟨w.heap.size,m.toNat,madeCells R.cells<|m.toNat*G.sz e,e,hx,σ,by simp;omega,by simp[madeCells],?_,rfl,by unfold maxLen;omega⟩) λs hs=>?_
   .have hw:=Af9 ok (ν:=ν) (S:=S) (hh:=w.heap.push<|.cells (madeCells R.cells<|m.toNat*G.sz e) e) h7 hc m.toNat;intro q j x cv h0 u;have hq:q<n.toNat:=by have:=(e_.1 h0).1;simpa using this
    simp[hq]at h0;subst h0;rw[ok.encdec _ _ _ hz]at u;have hj:j<G.sz e:=by have:=(e_.1 u).1;simpa[Gp,ok.zlen e]using this
    have h5:R.cells.size=G.sz e:=by rw[<-ok.zlen e,<-h7];simp
    simp[Gp]at u;obtain⟨v0,D,rfl⟩:=u;refine⟨v0,?_,.sc _<|ok.zsc e _<|p_ D⟩;have hl:q*G.sz e+j<m.toNat*G.sz e:=by
     have:(q+1)*G.sz e<=m.toNat*G.sz e:=w_ _ ω
     rw[a0_]at this;omega
    have ha:(q*G.sz e+j)%G.sz e=j:=by rw[f3_,Nat.mul_add_mod,g7_ hj]
    rw[<-h7]at D;simp[madeCells,hl,h5,ha];simp[h5,hj]at D;simp[D,h5,hj]
   .simp at hs;subst hs;exact .p _ _<|.one _ _ ⟨_,_,_,EB,rfl⟩
 |_=>simp[ht,I]at r
end
section
variable{P:Program}{ν:Nat->Option Value}{S B:Nat->Prop}{h:Nat->Option (W G.T)}{w:World}{ρ:Operand->Value}{o:Oper}
variable(ok:SigOK P G){ev:Operand->Option (Sv G.T)}(hev:∀x s,ev x=A s->Rs G ν S w.heap s (ρ x))(hr:HRel G ν S B h w){out:O G}
include ok hev hr
theorem Avq{x y:Operand}(ho:o.op=.store t x y)(k:Md ev h t x y (O G) A=A out):Z P G ρ o ν S B h w out:=by
 unfold Md at k;obtain⟨c,hc,k⟩:=aB k;obtain⟨x',r,k⟩:=Sc k;obtain⟨p,k⟩:=L k;have h5:Ru h c x'.cells (O G) A=A out->Z P G ρ o ν S B h w out:=Aqx ok hev hr ho hc r p;cases c with
 |pr m tt i off=>
  unfold ZJ at k;obtain⟨q,hq,k⟩:=V k;obtain⟨D,k⟩:=L k;obtain⟨⟨n,k'⟩,hp,k⟩:=V k;simp[J]at k;subst k;have h6:m∉q.2:=λhm=>by rw[(Hp q.2 m).2 hm]at D;simp at D
  have h4:=hr.frz q.2;have R:=YT hr hq (λ_ h=>h)<|TM<|TK hev r;have h2:Kh (BB h<|MH q.2) q.1 (.pr m tt i off)=A (n,k'):=by rw[<-hp];simp only[Kh];rw[Of,if_neg h6]
  have h7:Rc G ν (TA ν S h q.2) w.heap (.pr m tt i off)<|ρ x:=Hv hev hc;obtain⟨b,h8,w',xx,hv,h1,hn,F,hb,⟨c',te,hw⟩,Q⟩:=Aff ok h4 h7 R h2;have u:(ρ y).cells.size=G.sz t:=by
   have:=(TM<|TK hev r).1
   simp at p;rw[p.1]at this;simpa using this.symm
  have h3:G.ty t≠ .no:=by intro e;simp[e,Oa]at p
  refine⟨.skip,w',undef,ν,TA ν S h q.2,?_,.inr ⟨rfl,rfl⟩,?_⟩
  .unfold execOp;rw[ho];simp only[Instr.storeAt,hv,Instr.sureAddr,storeVar,K_,a2_,u_,ok.sizeOf w h3,u];simp[h1]
  .rw[Ab2];exact Post.frz (fz:=q.2) (out1:=⟨C,[(n,A k')],[],[]⟩) hr rfl rfl ⟨λ_ _ h=>h,λ_ h=>.inl h,λ_ h=>h,λ_ h=>.inl h,Q,λs hs=>by simp at hs,by rw[hw.size];exact t_ _,
    λb' h9 h0=>hw.there b' (λe=>h0 n xx hn F<|e▸hb),hw.env⟩
 |_=>exact h5 k
end
end Go.Ab
namespace Go.Ab
variable{G:Sig}
variable{xs:Array Operand}{b:Builtin}{x:Operand}{t:Nat}{i:TypeInfo}{v:Value}
def Aer:∀(ns:List Int) (s:ByteArray),ns.foldl (λr n=>r.push<|UInt8.ofNat n.toNat) s=⟨s.data++(ns.map λn=>UInt8.ofNat n.toNat).toArray⟩
 |[],s=>by simp
 |n::ns,s=>by rw[List.foldl_cons,Aer ns];apply ByteArray.ext;simp[ByteArray.push]
def Bkx{P:Program}{e:Nat}(ok:SigOK P G)(p:Ac4 ((G.enc e<|G.dfl e).map u8C)=N)(x:G.T e):∃n,G.enc e x=[.sc<|.int .u8 n]:=by
 rw[ok.u8d e (G.dfl e) x]at p;generalize G.enc e x=cs at p
 match cs,p with
 |[c],p=>
  simp only[List.map_cons,List.map_nil]at p;cases c with
  |sc v=>
   cases v with
   |int k n=>cases k<;>first|exact⟨_,rfl⟩|simp[Ac4,u8C]at p
   |_=>simp[Ac4,u8C]at p
  |_=>simp[Ac4,u8C]at p
 |[],p=>simp[Ac4]at p
 |_::_::_,p=>simp[Ac4]at p
section
variable{P:Program}{ν:Nat->Option Value}{S B:Nat->Prop}{h:Nat->Option (W G.T)}{w:World}{ρ:Operand->Value}{o:Oper}
variable(ok:SigOK P G){ev:Operand->Option (Sv G.T)}(hev:∀x s,ev x=A s->Rs G ν S w.heap s (ρ x))(hr:HRel G ν S B h w)(hB:∀b,w.heap.size<=b->B b)
 {cf:Dc G}{nm:Nat}{out:O G}(hfresh:∀n∈out.nw,ν n=C)
theorem Sh{p:Nat}{l:List<|G.T t}{r:List<|G.T p}(k:OV G t p l=A r):∃e:t=p,r=e▸l:=by
 unfold OV at k;split at k
 .rename_i e;simp at k;exact⟨e,k.symm⟩
 .simp at k
include ok hr in
theorem Nj{e:Nat}(ht:G.ty t=.sl e){c:Cv G.T}{l:List<|G.T e}(R:Ix h e c=A l)(hv:Rc G ν S w.heap c v):
  ∃a p,v=.slice a l.length p/\(a=C->l=[])/\∃vs:List Value,vs.length=l.length*G.sz e/\(∀a',a=A a'->∀(j:Nat) u,vs[j]?=A u->w.cell? (a'.add j)=A u)/\
   (∀u∈vs,u.oneCell'=N)/\∀(i j:Nat) x cv,l[i]?=A x->(G.enc e x)[j]?=A cv->∃u,vs[i*G.sz e+j]?=A u/\Rd G S w.heap cv u:=by
 have h0:=(ok.sl t e ht).2.2.2;have D:=ok.pos _ (ok.sl t e ht).2.1;unfold Ix at R;split at R
 .simp at R;subst R;have hc:Rd G S w.heap (.sc<|.slice C 0 0) v:=hv;cases hc;exact⟨C,0,rfl,λ_=>rfl,[],σ,σ,σ,σ⟩
 .rename_i n;split at R
  .rename_i k l0 hn;obtain⟨rfl,rfl⟩:=Sh R;obtain⟨a,len,p,hf,rfl⟩:=hv;rcases hr.blk n _ hn with⟨h1,h2⟩|⟨b,hs,c,te,h1,h2,h3,h4,h5⟩
   .rw[hf]at h1;simp at h1;obtain⟨rfl,rfl,rfl⟩:=h1;subst h2;exact⟨C,0,rfl,λ_=>rfl,[],σ,σ,σ,σ⟩
   .rw[hf]at h1;simp at h1;obtain⟨rfl,rfl,rfl⟩:=h1;have hp:l.length*G.sz k<=p*G.sz k:=w_ _ h3;refine⟨_,p,rfl,σ,c.toList.take<|l.length*G.sz k,by simp;omega,?_,?_,?_⟩
    .rintro a' ha j u y;simp at ha;subst ha;have r:j<l.length*G.sz k:=by have:=(e_.1 y).1;simp at this;omega
     rw[B_ r]at y;rw[Hz,n_,e3_ w b j c te (0,0) h2];simpa using y
    .intro u y;obtain⟨j,r,e⟩:=List.getElem_of_mem y;have he:j<l.length*G.sz k:=by simp at r;omega
     have hi:j/G.sz k<l.length:=Nat.div_lt_of_lt_mul (by rw[f3_];exact he);have hm:j%G.sz k<(G.enc k l[j/G.sz k]).length:=by rw[h0];exact g4_ _ D
     obtain⟨u',h9,F⟩:=h5.1 (j/G.sz k) (j%G.sz k) _ _ (h_ hi)<|h_ hm;rw[f3_,Nat.div_add_mod]at h9
     have:u=u':=by
      have h6:(c.toList.take<|l.length*G.sz k)[j]?=A u:=by rw[<-e];exact h_ r
      rw[B_ he]at h6;simp at h6;rw[h6]at h9;simpa using h9
     rw[this];exact Wb F
    .intro i j x cv hx Q;obtain⟨u,y,F⟩:=h5.1 i j x cv hx Q;have hi:i<l.length:=(e_.1 hx).1;have r:j<G.sz k:=by have:=(e_.1 Q).1;rw[h0]at this;exact this
     have:(i+1)*G.sz k<=l.length*G.sz k:=w_ _ ω
     rw[a0_]at this;exact⟨u,by rw[B_ ω];simpa using y,F⟩
  .simp at R
 .rename_i k l0;obtain⟨rfl,rfl⟩:=Sh R;have hc:Rd G S w.heap (.ro k l) v:=hv;cases hc with
  |nil _ a p=>exact⟨a,p,rfl,λ_=>rfl,[],σ,σ,σ,σ⟩
  |ro _ _ b off p c te fz vs hS hb _ ho h8 F=>
   have h7:∀j,j<l.length*G.sz k->j/G.sz k<l.length:=λj r=>Nat.div_lt_of_lt_mul (by rw[f3_];exact r);refine⟨_,p,rfl,σ,(List.range<|l.length*G.sz k).map λj=>vs (j/G.sz k)<|j%G.sz k,σ,?_,?_,?_⟩
   .rintro a' ha j u y;simp at ha;subst ha;have r:j<l.length*G.sz k:=by have:=(e_.1 y).1;simpa using this
    simp[r]at y;subst y;rw[Hz,e3_ w b (off+j) c te fz hb];rw[<-h8 (j/G.sz k) (j%G.sz k) (h7 j r) (g4_ _ D)];congr 1
    have:=Nat.div_add_mod j<|G.sz k
    rw[f3_]at this;omega
   .intro u y;simp at y;obtain⟨j,r,rfl⟩:=y;have hi:=h7 j r;have hm:j%G.sz k<(G.enc k l[j/G.sz k]).length:=by rw[h0];exact g4_ _ D
    exact Wb<|F _ _ _ _ (h_ hi)<|h_ hm
   .intro i j x cv hx Q;have hi:i<l.length:=(e_.1 hx).1;have r:j<G.sz k:=by have:=(e_.1 Q).1;rw[h0]at this;exact this
    have h6:(i+1)*G.sz k<=l.length*G.sz k:=w_ _ ω;rw[a0_]at h6;have hd:(i*G.sz k+j)/G.sz k=i:=by rw[f3_,Nat.mul_add_div D,Nat.div_eq_of_lt r,c7_]
    have hk:(i*G.sz k+j)%G.sz k=j:=by rw[f3_,Nat.mul_add_mod,g7_ r]
    have hg:i*G.sz k+j<l.length*G.sz k:=ω;exact⟨vs i j,by simp[hg,hd,hk],F i j x cv hx Q⟩
 .simp at R
def Anr{T:Nat->Type}:List (Cv T)->Int
 |[.sc<|.int _ n]=>n
 |_=>0
theorem EZ{tys:Array TypeId}(r:o.op=.call ⟨.builtin b,xs,tys⟩){s:Sem Value}{w':World}
  (p:∀cs,builtin b tys o.type cs (xs.map ρ)=(do pure<|.value<|<-s)) (k:s.run P w=.ok v w'):(execOp ρ o).run P w=.ok (.value v) w':=by
 unfold execOp;rw[r];simp only[resolve,invoke,K_,a2_,u_,p,k]
omit hev hr ok in
theorem Ail{dT ty k:TypeId}{w:World}{b off dl dc sl sc:Nat}{a:Option Addr}{c:Array Value}{te:TypeId}{news:List Value}
  (hu:P.underlying dT=A (.slice k)) (hs:P.info? k=A i) (hb:w.heap[b]?=A (.cells c te (0,0)))
  (hn:news.length=X sl dl*i.size) (D:∀y,a=A y->∀(j:Nat) v,news[j]?=A v->w.cell? (y.add j)=A v) (r:a=C->news=[]) (p:off+news.length<=c.size) (h1:∀v∈news,v.oneCell'=N) :
  ∃w' u,(Builtin.copy_ #[dT,dT] ty #[.slice (A ⟨b,off,C⟩) dl dc,.slice a sl sc]).run P w=.ok (goInt<|X sl dl) w'/\Wrote w w' b u te/\u.size=c.size/\
   ∀j,u[j]?=if off<=j/\j<off+news.length then news[j-off]? else c[j]?:=by
 obtain⟨w',u,Q,hw,F,R⟩:=Kj (P:=P) (off:=off) news 0 w c hb (by simpa using p) h1;refine⟨w',u,?_,hw,F,by simpa using R⟩;have hl:(Builtin.firstCells i.size (X sl dl)<|.slice a sl sc).run P w=.ok news.toArray w:=by
  cases a with
  |none=>rw[r rfl];simp[Builtin.firstCells]
  |some y=>
   have:=run_loadCells_list (P:=P) w y news<|D y rfl
   rw[hn]at this;simpa[Builtin.firstCells]using this
 simp[Builtin.copy_,M_ hu,Builtin.lenOf,sizeOf,typeInfo,hs,hl,Q]
include hev hr ok
theorem Aw3{y:Operand}{tys:Array TypeId}(ho:o.op=.call ⟨.builtin .copy,xs,tys⟩)(xd:tys.toList=[t,t])(xn:xs.toList=[x,y])
  (F:AP ev h nm .copy tys.toList xs.toList (O G) A=A out):Z P G ρ o ν S B h w out:=by
 rw[xd,xn]at F;have x3:xs=#[x,y]:=by rw[<-e7_ (xs:=xs),xn]
 have h8:tys=#[t,t]:=by rw[<-e7_ (xs:=tys),xd]
 have F:Qy ev h t t x y (O G) A=A out:=F;unfold Qy at F;cases ht:G.ty t with
 |sl e=>
  simp only[ht]at F;obtain⟨_,h1⟩:=L F;obtain⟨c,hc,h2⟩:=aB h1;obtain⟨c',y5,h3⟩:=aB h2;obtain⟨k,yb,h4⟩:=V h3;obtain⟨hu,he,⟨i,hi,_⟩,yc⟩:=ok.sl t e ht;have xv:i.size=G.sz e:=by obtain⟨i',z,g1,g2,_⟩:=ok.info e he;rw[hi]at g1;cases g1;exact g2
  have yf:=ok.pos _ he;obtain⟨a,xl,hv,xb,vs,xm,xx,xr,xq⟩:=Nj ok hr ht yb<|Hv hev y5;have x8:∀n m:Nat,Ak9 n m=((X n m:Nat):Int):=by
   intro n m;unfold Ak9;cases hb:Nat.ble n m with
   |true=>rw[i_,show X n m=n from d2_<|E_ hb]
   |false=>
    have:m<=n:=by
     rcases f5_ m n with h|h
     .omega
     .rw[e2_ h]at hb;cases hb
    rw[j_,show X n m=m from Nat.min_eq_right this]
  unfold Aaf at h4;cases c with
  |own m=>
   simp only at h4;cases hm:h m with
   |none=>simp[hm,I]at h4
   |some blk=>
    cases blk with
    |cells cs=>simp[hm,I]at h4
    |row u l=>
     simp only[hm]at h4;obtain⟨hg,h5⟩:=L h4;obtain⟨y4,xp,h6⟩:=V h5;simp[J]at h6;subst h6;simp only[b_]at hg;obtain rfl:u=e:=AQ.1 hg.1;have yd:k=y4:=by obtain⟨_,e⟩:=Sh xp;exact e.symm
     subst yd;obtain⟨av,yg,yi,r,_⟩:=Hv hev hc;have h9:h m≠C:=by rw[hm];simp
     rcases hr.blk m _ hm with⟨g1,g2⟩|⟨b,hy,cc,te,g1,g2,g3,g4,g5,g6,g7⟩
     .have x0:=s_<|r.symm.trans g1;subst g2;have R:(Builtin.copy_ tys o.type<|xs.map ρ).run P w=.ok (goInt<|X k.length 0) w:=by
       have hl:(Builtin.firstCells i.size 0<|.slice a k.length xl).run P w=.ok #[] w:=by
        cases a with
        |none=>simp[Builtin.firstCells]
        |some a'=>
         have:=run_loadCells_list (P:=P) w a' [] σ
         simpa[Builtin.firstCells]using this
       simp[Builtin.copy_,x3,h8,M_ hu,Builtin.lenOf,sizeOf,typeInfo,hi,x0,hv,hl]
      refine⟨.value<|goInt<|X k.length 0,w,_,ν,S,EZ ho (λ_=>rfl) R,.inl rfl,⟨λ_ _ h=>h,λ_ h=>.inl h,λ_ h=>h,λ_ h=>.inl h,?_,λs hs=>?_,t_ _,λ_ _ _=>rfl,rfl,rfl,rfl⟩⟩
      .have:BB h [(m,A<|Blk.row u<|NJ ([]:List<|G.T u) k)]=h:=by
        funext q;simp only[BB,NJ];by_cases hq:q=m
        .subst hq;simp[hm]
        .simp[a7_ hq]
       simp only[this];exact hr
      .simp at hs;subst hs;rw[x8];exact .p _ _<|.one _ _<|.sc _ rfl
     .have x0:=s_<|r.symm.trans g1;rw[x0]at r;subst g6;have hk:X k.length l.length*G.sz te<=hy*G.sz te:=w_ _<|c5_ (Nat.min_le_right _ _) g3;have yj:X k.length l.length*G.sz te<=k.length*G.sz te:=w_ _<|aH _ _;have Q:(vs.take<|X k.length l.length*G.sz te).length=X k.length l.length*G.sz te:=by rw[x_];omega
      obtain⟨w',c2,R,hw,y6,xk⟩:=Ail (P:=P) (dT:=t) (ty:=o.type) (dl:=l.length) (dc:=hy) (sl:=k.length) (sc:=xl) (a:=a) (news:=vs.take<|X k.length l.length*G.sz te) hu hi g2 (off:=0)
       (by rw[Q,xv]) (λa' ha j v hj=>xx a' ha j v (by
        have:=(e_.1 hj).1
        rw[x_]at this;rw[B_ ω]at hj;exact hj)) (λha=>by
        have:k=[]:=xb ha
        apply S_;rw[Q,this];show X 0 l.length*G.sz te=0;rw[show X 0 l.length=0 from Nat.zero_min _,Nat.zero_mul]) (by rw[Q];omega) (λv hv=>xr v<|e4_ hv)
      have hx:AX (Value.slice (A (⟨b,0,C⟩:Addr)) l.length hy)=A b:=rfl;have hS:¬S b:=(hr.own m _ b h9 r hx).1;have le:Le ν ν S S w.heap w'.heap:=⟨λ_ _ h=>h,λ_ h=>h,λb' x5=>hw.there b' (λe=>hS<|e▸x5)⟩
      have xe:(NJ l k).length=l.length:=by unfold NJ;rw[f_,x_,U_];omega
      have x4:=hr.wrote h9 r hx hw (k':=.row te<|NJ l k)<|.inr ⟨b,hy,c2,te,by rw[r,xe],hw.here,by rw[xe];exact g3,by rw[y6,g4],λi' j x' cv D xf=>?_,rfl,g7⟩
      .refine⟨.value<|goInt<|X k.length l.length,w',_,ν,S,EZ ho (λ_=>rfl) (by rw[x3,h8];simpa[x0,hv]using R),.inl rfl,⟨λ_ _ h=>h,λ_ h=>.inl h,λ_ h=>h,λ_ h=>.inl h,?_,λs hs=>?_,by rw[hw.size];exact t_ _,λb' x5 x6=>hw.there b' (λe=>x6 m _ h9 r<|e▸hx),hw.env⟩⟩
       .have:BB h [(m,A<|Blk.row te<|NJ l k)]=λq=>if m=q then A (Blk.row te<|NJ l k)else h q:=by
         funext q;simp only[BB]
        rw[this];exact x4
       .simp at hs;subst hs;rw[x8];exact .p _ _<|.one _ _<|.sc _ rfl
      .have hj:j<G.sz te:=by have:=(e_.1 xf).1;rw[yc]at this;exact this
       rw[xk,Q];unfold NJ at D;by_cases x9:i'<X k.length l.length
       .have yk:i'<k.length:=d4_ x9<|aH _ _;have y8:i'<l.length:=d4_ x9<|Nat.min_le_right _ _;rw[b2_ (by rw[x_];omega),B_ y8]at D;obtain⟨u,x1,x2⟩:=xq i' j x' cv D xf;have hd:i'*G.sz te+j<X k.length l.length*G.sz te:=by
         have:(i'+1)*G.sz te<=X k.length l.length*G.sz te:=w_ _ x9
         rw[a0_]at this;omega
        exact⟨u,by rw[if_pos ⟨W_ _,ω⟩,Nat.sub_zero,B_ hd];exact x1,x2.mono le.st le.hp⟩
       .have xi:X k.length l.length<=i':=Nat.le_of_not_lt x9;have y3:l[i']?=A x':=by
         rcases Nat.le_total l.length k.length with x7|x7
         .have y1:i'<(k.take l.length++l.drop k.length).length:=(e_.1 D).1;rw[f_,x_,U_]at y1
          have:X k.length l.length=l.length:=Nat.min_eq_right x7
          rw[this]at xi;omega
         .have:X k.length l.length=k.length:=d2_ x7
          rw[this]at xi;rw[b8_ (by rw[x_];omega),c1_,x_,Nat.min_eq_right x7,show k.length+(i'-k.length)=i' by omega]at D;exact D
        obtain⟨u,x1,x2⟩:=g5 i' j x' cv y3 xf;have ye:X k.length l.length*G.sz te<=i'*G.sz te:=w_ _ xi;exact⟨u,by rw[if_neg ω];exact x1,x2.mono le.st le.hp⟩
  |sa m off len=>
   simp only at h4;cases hm:h m with
   |none=>simp[hm,I]at h4
   |some blk=>
    cases blk with
    |row u l=>simp[hm,I]at h4
    |cells cs=>
     simp only[hm]at h4;obtain⟨hg,h5⟩:=L h4;obtain⟨xj,hn,h6⟩:=V h5;obtain⟨ya,h7⟩:=L h6;simp[J]at h7;subst h7;simp only[b_]at hg;have xg:G.sz e=1:=AQ.1 hg.1;obtain⟨b,r,x0⟩:=Hv hev hc;have h9:h m≠C:=by rw[hm];simp
     obtain⟨b2,cc,te,g1,g2,g3,g4⟩:=hr.blk m _ hm;rw[r]at g1;cases g1;unfold Bd2 at hn;split at hn
     .rename_i new xc;rw[Wj]at xc;obtain⟨n1,n2⟩:=CX _ _ xc;rw[List.length_range]at n1;obtain⟨s1,s2,s3⟩:=Jv _ _ _ _ hn;have y7:cs.length=cc.size:=by have:=g3.1;simpa using this
      rw[xg,d5_]at xm;have Q:(vs.take<|X k.length len).length=X k.length len:=by rw[x_,xm];exact d2_<|aH _ _
      have x7:X k.length len<=len:=Nat.min_le_right _ _;obtain⟨w',c2,R,hw,xz,xk⟩:=Ail (P:=P) (dT:=t) (ty:=o.type) (dl:=len) (dc:=len) (sl:=k.length) (sc:=xl) (a:=a) (news:=vs.take<|X k.length len) hu hi g2 (off:=off)
       (by rw[Q,xv,xg,d5_]) (λa' ha j v hj=>xx a' ha j v (by
        have:=(e_.1 hj).1
        rw[x_]at this;rw[B_ ω]at hj;exact hj)) (λha=>by
        have:k=[]:=xb ha
        apply S_;rw[Q,this];exact Nat.zero_min _) (by rw[Q];omega) (λv hv=>xr v<|e4_ hv)
      have hx:AX (Value.pointer<|A (⟨b,0,C⟩:Addr))=A b:=rfl;have hS:¬S b:=(hr.own m _ b h9 r hx).1;have le:Le ν ν S S w.heap w'.heap:=⟨λ_ _ h=>h,λ_ h=>h,λb' x5=>hw.there b' (λe=>hS<|e▸x5)⟩
      have x4:=hr.wrote h9 r hx hw (k':=.cells xj) ⟨b,c2,te,r,hw.here,⟨by rw[s1,y7,<-xz];simp,λq x' y' D y2=>?_⟩,λm' t' y0=>(Zp ya y0).elim⟩
      .refine⟨.value<|goInt<|X k.length len,w',_,ν,S,EZ ho (λ_=>rfl) (by rw[x3,h8];simpa[x0,hv]using R),.inl rfl,⟨λ_ _ h=>h,λ_ h=>.inl h,λ_ h=>h,λ_ h=>.inl h,?_,λs hs=>?_,by rw[hw.size];exact t_ _,λb' x5 x6=>hw.there b' (λe=>x6 m _ h9 r<|e▸hx),hw.env⟩⟩
       .have:BB h [(m,A<|Blk.cells xj)]=λq=>if m=q then A (Blk.cells xj)else h q:=by
         funext q;simp only[BB]
        rw[this];exact x4
       .simp at hs;subst hs;rw[x8];exact .p _ _<|.one _ _<|.sc _ rfl
      .rw[s3]at D;have h0:c2[q]?=A y':=by simpa using y2
       rw[xk,Q]at h0;by_cases hin:off<=q/\q<off+new.length
       .rw[if_pos hin]at D;obtain⟨z,hz,hf⟩:=n2 (q-off) (q-off) (by rw[aI ω]);rw[hz]at D;cases D;split at hf
        .rename_i o0 c0 xw xy;rw[show off+(q-off)=q by omega]at xw;have xa:=Ae0 hf;by_cases hd:q-off<k.length
         .rw[show aF (q-off) k.length=N from e2_<|Nat.succ_le_of_lt hd,if_pos rfl]at xa;rw[if_pos ⟨hin.1,by have:q-off<X k.length len:=Nat.lt_min.2 ⟨hd,ω⟩;omega⟩]at h0;have xo:k[q-off]?=A (k.getD (q-off)<|G.dfl e):=by rw[g_,h_ hd];rfl
          obtain⟨u,x1,x2⟩:=xq (q-off) 0 _ c0 xo (by rw[xy];rfl);rw[xg,d5_,c7_]at x1;rw[B_<|Nat.lt_min.2 ⟨hd,ω⟩,x1]at h0;cases h0;rw[xa];exact(Ahw ok (t:=e) (x:=k.getD (q-off)<|G.dfl e) (by rw[xy];simp)<|x2.mono le.st le.hp)
         .rw[show aF (q-off) k.length=false from by
           cases y9:aF (q-off) k.length with
           |false=>rfl
           |true=>exact absurd (E_ y9) hd,if_neg σ]at xa
          have:X k.length len<=k.length:=aH _ _
          rw[if_neg ω]at h0;rw[xa];exact(g3.2 q o0 y' xw (by simpa using h0)).mono le
        .cases hf
       .rw[if_neg hin]at D;rw[if_neg ω]at h0;exact(g3.2 q x' y' D (by simpa using h0)).mono le
     .cases hn
  |_=>simp[I]at h4
 |_=>simp[ht,I]at F
theorem Bbo{tys:Array TypeId}(ho:o.op=.call ⟨.builtin .len,xs,tys⟩)(Q:∃ts,tys.toList=t::ts)(F:xs.toList=[x])
  (k:AP ev h nm .len tys.toList xs.toList (O G) A=A out):Z P G ρ o ν S B h w out:=by
 obtain⟨ts,D⟩:=Q;rw[D,F]at k;have r:xs=#[x]:=by rw[<-e7_ (xs:=xs),F]
 have u:tys[0]?=A t:=by rw[<-Array.getElem?_toList,D];rfl
 have go:∀n:Nat,(Builtin.len_ tys o.type<|xs.map ρ).run P w=.ok (goInt n) w->Z P G ρ o ν S B h w (outV<|.int .i64 n):=by intro n hn;exact aA hr (EZ ho (λ_=>rfl) hn) rfl
 cases y:G.ty t with
 |str=>
  simp only[AP,Vg,y]at k;obtain⟨c,R,h1⟩:=aB k;cases c with
  |sc v=>
   cases v with
   |string s=>simp[J]at h1;subst h1;refine go _ ?_;simp[Builtin.len_,u,r,M_<|ok.str t y,(FG hev R).1]
   |_=>simp[I]at h1
  |_=>simp[I]at h1
 |arr n e=>simp only[AP,Vg,y]at k;simp[J]at k;subst k;refine go _ ?_;simp[Builtin.len_,u,r,M_ (ok.arr t n e y).1]
 |sl e=>
  simp only[AP,Vg,y]at k;obtain⟨c,R,h1⟩:=aB k;have h0:M.bind (M.opt<|Ix h e c) (λl=>J (⟨A<|.p<|.one<|.sc<|.int .i64 (l.length:Int),[],[],c.rds⟩:O G)) (O G) A=A out->Z P G ρ o ν S B h w out:=λh1=>by
   obtain⟨l,hl,h2⟩:=V h1;simp[J]at h2;subst h2;obtain⟨a,h3,hv,_⟩:=Nj ok hr y hl<|Hv hev R;refine Runs.value hr rfl (EZ ho (λ_=>rfl) (v:=goInt l.length) ?_) λs hs=>?_
   .simp[Builtin.len_,u,r,M_ (ok.sl t e y).1,hv]
   .simp at hs;subst hs;exact .p _ _<|.one _ _<|.sc _ rfl
  cases c with
  |sa n off len=>simp[An2,J]at h1;subst h1;obtain⟨b,_,hv⟩:=Hv hev R;refine go _ ?_;simp[Builtin.len_,u,r,M_ (ok.sl t e y).1,hv]
  |_=>exact h0 h1
 |_=>simp[AP,Vg,y,I]at k
theorem Aw2{s:Nat}(ho:o.op=.convert s t x)(Q:OQ ev h s t x (O G) A=A out):Z P G ρ o ν S B h w out:=by
 unfold OQ at Q;obtain⟨hs,h0⟩:=L Q;obtain⟨c,hc,h1⟩:=aB h0;cases r:G.ty s with
 |sl e=>
  rw[r]at h1;simp only at h1;cases D:Aez (G.ty t)with
  |false=>rw[D]at h1;exact Aeb ok hev hr ho hs hc h1
  |true=>
   rw[D,i_]at h1;obtain⟨hg,h2⟩:=L h1;obtain⟨l,hl,h3⟩:=V h2;simp[J]at h3;subst h3;rw[b_]at hg;have h8:P.underlying e=A (.int .u8):=by
    have:=hg.1
    unfold Bjv at this;split at this
    .rename_i k;exact ok.int e .u8 k
    .simp at this
   have k:P.underlying t=A .string:=by
    unfold Aez at D;split at D
    .rename_i k;exact ok.str t k
    .simp at D
   have y:=Bkx (G:=G) ok hg.2;have h4:G.sz e=1:=by have h1:=(ok.sl s e r).2.2.2<|G.dfl e;obtain⟨n,hn⟩:=y<|G.dfl e;rw[hn]at h1;simpa using h1.symm
   obtain⟨a,h5,hv,ha,vs,h9,R,_,h7⟩:=Nj ok hr r hl<|Hv hev hc;have h6:=(ok.sl s e r).1;refine Runs.value hr rfl (v:=.string<|ZN G e l) ?_ λs hs=>?_
   .unfold execOp;rw[ho];simp only[hv,K_];cases a with
    |none=>obtain rfl:=ha rfl;rw[run_convert_bytes_string w s t e C _ h5 h6 h8 k];simp[Conv.bytesToString,ZN];rfl
    |some a=>
     have hd:vs=(l.map λx=>Anr<|G.enc e x).map (Value.int .u8):=by
      apply List.ext_getElem?;intro i;rw[List.map_map,b3_];cases hi:l[i]? with
      |none=>rw[List.getElem?_eq_none_iff]at hi;simp only[aJ];rw[List.getElem?_eq_none_iff];rw[h9,h4];omega
      |some x=>obtain⟨n,hn⟩:=y x;obtain⟨u,hu,hb⟩:=h7 i 0 x _ hi (by rw[hn];rfl);rw[h4,d5_,c7_]at hu;rw[hu];cases hb;simp[hn,Anr]
     have F:=run_loadCells_list (P:=P) w a vs (λj u hj=>R a rfl j u hj);rw[h9,h4,d5_,hd]at F;rw[run_convert_bytes_string w s t e (A a) _ h5 h6 h8 k,run_bytesToString w a l.length h5 (l.map λx=>Anr<|G.enc e x) F,Aer];simp only[ZN,List.map_map];have e1:(λn:Int=>UInt8.ofNat n.toNat)∘(λx=>Anr<|G.enc e x)=λx=>ZX<|G.enc e x:=by funext x;obtain⟨n,hn⟩:=y x;simp[hn,Anr,ZX]
     rw[e1,show ByteArray.empty.data=(#[]:Array UInt8)from rfl,Array.empty_append];rfl
   .simp at hs;subst hs;exact .p _ _<|.one _ _<|.sc _ rfl
 |_=>rw[r]at h1;exact Aeb ok hev hr ho hs hc h1
omit ok
theorem Abo{y:Operand}{tys:Array TypeId}(hb:b=.min\/b=.max)(ho:o.op=.call ⟨.builtin b,xs,tys⟩)(u:xs.toList=[x,y])
  (p:AP ev h nm b tys.toList xs.toList (O G) A=A out):Z P G ρ o ν S B h w out:=by
 rw[u]at p;have r:xs=#[x,y]:=by rw[<-e7_ (xs:=xs),u]
 rcases hb with rfl|rfl
 .simp only[AP,As1]at p;obtain⟨k,m,Q,h1⟩:=Ae p;obtain⟨k',n,hn,R⟩:=Ae h1;obtain⟨F,D⟩:=L R;have e:=Ho F;simp at e;subst e;simp[J]at D;subst D;refine aA hr (EZ ho (λ_=>rfl) ?_) rfl;simp[Builtin.min_,r,(FG hev Q).1,(FG hev hn).1,Builtin.min2]
 .simp only[AP,As0]at p;obtain⟨k,m,Q,h1⟩:=Ae p;obtain⟨k',n,hn,R⟩:=Ae h1;obtain⟨F,D⟩:=L R;have e:=Ho F;simp at e;subst e;simp[J]at D;subst D;refine aA hr (EZ ho (λ_=>rfl) ?_) rfl;simp[Builtin.max_,r,(FG hev Q).1,(FG hev hn).1,Builtin.max2]
theorem Zk{y z:Operand}{tys:Array TypeId}(hb:b=.min\/b=.max)(ho:o.op=.call ⟨.builtin b,xs,tys⟩)(R:xs.toList=[x,y,z])
  (r:AP ev h nm b tys.toList xs.toList (O G) A=A out):Z P G ρ o ν S B h w out:=by
 rw[R]at r;have D:xs=#[x,y,z]:=by rw[<-e7_ (xs:=xs),R]
 rcases hb with rfl|rfl
 .simp only[AP,Ak2]at r;obtain⟨k,m,hm,h1⟩:=Ae r;obtain⟨k',n,hn,Q⟩:=Ae h1;obtain⟨k2,p,hp,Q⟩:=Ae Q;obtain⟨he,u⟩:=L Q;obtain⟨F,u⟩:=L u;have e:=Ho he;have e2:=Ho F;simp at e e2;subst e;subst e2;simp[J]at u;subst u;refine aA hr (EZ ho (λ_=>rfl) ?_) rfl;simp[Builtin.min_,D,(FG hev hm).1,(FG hev hn).1,(FG hev hp).1,Builtin.min2];by_cases g:n<m<;>simp[g]
 .simp only[AP,Ak1]at r;obtain⟨k,m,hm,h1⟩:=Ae r;obtain⟨k',n,hn,Q⟩:=Ae h1;obtain⟨k2,p,hp,Q⟩:=Ae Q;obtain⟨he,u⟩:=L Q;obtain⟨F,u⟩:=L u;have e:=Ho he;have e2:=Ho F;simp at e e2;subst e;subst e2;simp[J]at u;subst u;refine aA hr (EZ ho (λ_=>rfl) ?_) rfl;simp[Builtin.max_,D,(FG hev hm).1,(FG hev hn).1,(FG hev hp).1,Builtin.max2];by_cases g:m<n<;>simp[g]
omit hev hr
theorem Apo{t e:TypeId}(r:P.underlying t=A (.slice e))(u:P.info? e=A i)(ty:TypeId)(a:Option Addr)(n k:Nat)(p:n<=k)(b:Option Addr)(c:Nat):
  (Builtin.append_ #[t,t] ty #[.slice a n k,.slice b 0 c]).run P w=.ok (.slice a n k) w:=by
 cases b<;>cases a<;>simp[Builtin.append_,M_ r,sizeOf,typeInfo,u,Builtin.lenOf,p,Builtin.firstCells,loadCells,loadCellsFrom,storeCells]
def Aag(h:Nat->Option (W G.T))(k:Option Nat)(m:Nat):Option<|W G.T:=
 match k with
 |some n=>if n=m then C else h m
 |none=>h m
include hev hr hB hfresh ok
theorem App{y:Operand}{tys:Array TypeId}(ho:o.op=.call ⟨.builtin .append,xs,tys⟩)(xe:tys.toList=[t,t])(xr:xs.toList=[x,y])
  (hv:AP ev h nm .append tys.toList xs.toList (O G) A=A out):Z P G ρ o ν S B h w out:=by
 rw[xe,xr]at hv;have y0:xs=#[x,y]:=by rw[<-e7_ (xs:=xs),xr]
 have xi:tys=#[t,t]:=by rw[<-e7_ (xs:=tys),xe]
 cases ht:G.ty t with
 |sl e=>
  simp only[AP,Lq,ht]at hv;obtain⟨_,h0⟩:=L hv;obtain⟨c,hc,h1⟩:=aB h0;obtain⟨c',ya,h2⟩:=aB h1;obtain⟨l,hl,h3⟩:=V h2;obtain⟨l',yk,h4⟩:=V h3;obtain⟨x3,h5⟩:=L h4;have x3:l.length+l'.length<=2147483648:=E_ x3;obtain⟨hu,he,⟨i,hi,ye⟩,y4⟩:=ok.sl t e ht;obtain⟨i',z,xn,yg,yf,yl⟩:=ok.info e he;rw[hi]at xn;simp at xn;subst xn;have xz:=ok.pos _ he;have yj:z.cells.size=G.sz e:=by rw[<-ok.zlen e,<-yl];simp
  obtain⟨a',xg,y2,xb,xj,x2,y3,xw,xo⟩:=Nj ok hr ht yk<|Hv hev ya;have xd:∀(D:List<|Nat×Option (W G.T)) (n0:Option Nat) (rd:List Nat),out=⟨A<|.p<|.one<|.own nm,D++[(nm,A<|.row e<|l++l')],[nm],rd⟩->
    (D=(match n0 with|some n=>[(n,C)]|none=>[]))->
    (∃(x0:List Value),w.ownsRow 0 e (G.sz e) (ρ x) l.length x0/\(∀(i j:Nat) y cv,l[i]?=A y->(G.enc e y)[j]?=A cv->∃u,x0[i*G.sz e+j]?=A u/\Rd G S w.heap cv u))->
    (∀b,(ρ x).ownBlock=A b->∃n y,n0=A n/\h n≠C/\ν n=A y/\AX y=A b)->(∀n,n0=A n->n≠nm)->Z P G ρ o ν S B h w out:=by
   intro D n0 rd xf hD ⟨x0,h7,xq⟩ h9 yq;have xy:ν nm=C:=hfresh nm (by rw[xf];simp);have x9:(l.length+l'.length)*i.bytes<=140737488355328:=by
    have:(l.length+l'.length)*i.bytes<=2147483648*4096:=Nat.mul_le_mul x3 ye
    omega
   have xx:∃v' w',(Builtin.append_ #[t,t] o.type #[ρ x,ρ y]).run P w=.ok v' w'/\w'.ownsRow 0 e (G.sz e) v' (l.length+l'.length) (x0++xj)/\w.grownBy w' (ρ x).ownBlock/\
     (v'.ownBlock=(ρ x).ownBlock\/v'.ownBlock=A w.heap.size):=by
    cases a' with
    |some ad=>obtain⟨v',w',h1,h2,h3,_,h5⟩:=Go.run_append_own_at (P:=P) w 0 t o.type e i z (G.sz e) i.bytes hu hi yf yg rfl yj xz (ρ x) l.length x0 h7 ad l'.length xg xj x2 (λj u hu=>y3 ad rfl j u hu) xw (by unfold maxLen;omega) x9<|W_ _;exact⟨v',w',by rw[y2];exact h1,h2,h3,h5⟩
    |none=>
     have hz:=xb rfl;subst hz;simp at x2;subst x2;have yc:∃a0 hp,ρ x=.slice a0 l.length hp/\l.length<=hp:=by
      rcases h7.2 with⟨h1,h2⟩|⟨g,hd,x6,h1,_,_,h4,_⟩
      .exact⟨C,0,by rw[h1,h2],ω⟩
      .exact⟨_,hd,h1,h4⟩
     obtain⟨a0,hp,y6,xm⟩:=yc;refine⟨ρ x,w,?_,by simpa using h7,⟨rfl,rfl,rfl,t_ _,λ_ _ _=>rfl⟩,.inl rfl⟩;rw[y6,y2];exact Apo hu hi _ a0 _ hp xm C xg
   obtain⟨v',w',y8,xk,hx,y7⟩:=xx;have hf:∀b,b<w.heap.size->(∀y,(ρ x).ownBlock=A y->y≠b)->w'.heap[b]?=w.heap[b]?:=λb R hn=>hx.block b R (λe=>hn b e.symm rfl);have hw:∀b,S b->w'.heap[b]?=w.heap[b]?:=λb R=>hf b (hr.stay b R) λy Q e=>by obtain⟨n,y',_,hn,F,r⟩:=h9 y Q;subst e;exact(hr.own n y' y hn F r).1 R
   have xl:Rb G (ext ν nm v') S w'.heap nm<|.row e<|l++l':=by
    have xa:∀(i j:Nat) y cv,(l++l')[i]?=A y->(G.enc e y)[j]?=A cv->∃u,(x0++xj)[i*G.sz e+j]?=A u/\Rd G S w'.heap cv u:=by
     intro i j y cv Q h8;have hj:j<G.sz e:=by have:=(e_.1 h8).1;rw[y4]at this;exact this
     rw[g6_]at Q;by_cases hi:i<l.length
     .rw[if_pos hi]at Q;obtain⟨u,hu,hg⟩:=xq i j y cv Q h8;have h6:(i+1)*G.sz e<=l.length*G.sz e:=w_ _ ω;rw[a0_]at h6;exact⟨u,by rw[b2_ (by rw[h7.1];omega)];exact hu,hg.mono (λ_ h=>h) hw⟩
     .rw[if_neg hi]at Q;obtain⟨u,hu,hg⟩:=xo (i-l.length) j y cv Q h8;have h6:i*G.sz e=l.length*G.sz e+(i-l.length)*G.sz e:=by rw[<-a0_];congr 1;omega
      refine⟨u,?_,hg.mono (λ_ h=>h) hw⟩;rw[b8_ (by rw[h7.1];omega),h7.1,show i*G.sz e+j-l.length*G.sz e=(i-l.length)*G.sz e+j by omega];exact hu
    have x4:(l++l').length=l.length+l'.length:=by simp
    rcases xk.2 with⟨g1,g2⟩|⟨g,hd,x6,g1,_,g3,g4,g5,g6,g7⟩
    .refine .inl ⟨by rw[EB,g1],S_ (by rw[x4];exact g2)⟩
    .refine .inr ⟨g,hd,x6,e,by rw[EB,g1,x4],g3,by rw[x4];exact g4,g6,λi j y cv Q h8=>?_,rfl,g5⟩;obtain⟨u,hu,hg⟩:=xa i j y cv Q h8;refine⟨u,?_,hg⟩;rw[<-g7]at hu;have yi:i*G.sz e+j<(l.length+l'.length)*G.sz e:=by
      have:=(e_.1 hu).1
      simp at this;omega
     rw[B_ yi]at hu;simpa using hu
   generalize x8:Aag h n0=h';have xc:∀m,h' m≠C->h' m=h m:=by
    intro m hm;subst x8;cases n0 with
    |none=>rfl
    |some n=>
     by_cases e:n=m
     .simp[Aag,e]at hm
     .simp[Aag,e]
   have y1:=hr.sub xc;have ha:∀m y b,h' m≠C->ν m=A y->AX y=A b->(ρ x).ownBlock≠A b:=by
    intro m y b hm Q R e;obtain⟨n,y',y9,hn,F,r⟩:=h9 b e
    have:=hr.apart m n y y' b (by rw[<-xc m hm];exact hm) hn Q F R r
    subst this;exact hm (by rw[<-x8];simp[Aag,y9])
   have xp:=y1.add (nm:=nm) (x:=v') (k:=.row e<|l++l') (w':=w') xy (λb R yb=>hf b R λy Q e=>by
     subst e;rcases yb with hS|⟨m,y',hm,F,r⟩
     .obtain⟨n,y',_,hn,F,r⟩:=h9 y Q;exact(hr.own n y' y hn F r).1 hS
     .exact ha m y' y hm F r Q) hx.size (λb R=>by
     have y5:v'.ownBlock=A b:=by
      rcases xk.2 with⟨g1,_⟩|⟨g,hd,x6,g1,_⟩
      .rw[g1]at R;simp[AX]at R
      .rw[g1]at R|-;simpa[AX,Value.ownBlock]using R
     rcases y7 with e|e
     .rw[y5]at e;obtain⟨n,y,_,hn,Q,r⟩:=h9 b e.symm;obtain⟨q1,q2⟩:=hr.own n y b hn Q r;exact⟨q1,q2,λm y' hm F xv=>ha m y' b hm F xv e.symm⟩
     .rw[y5]at e;simp at e;subst e;exact⟨λhS=>absurd (hr.stay _ hS)<|Nat.lt_irrefl _,hB _<|t_ _,λm y hm Q r=>absurd (y1.lt hm Q r)<|Nat.lt_irrefl _⟩) xl
   refine⟨.value v',w',v',ext ν nm v',S,EZ ho (s:=Builtin.append_ tys o.type<|xs.map ρ) (λ_=>rfl) (by rw[xi,y0];simpa using y8),.inl rfl,?_⟩;subst xf;refine⟨Aek xy,Arn,λ_ h=>h,λ_ h=>.inl h,?_,λs hs=>?_,hx.size,λb R hn=>hf b R λy Q e=>?_,hx.os,hx.tape,hx.output⟩
   .have:BB h (D++[(nm,A<|.row e<|l++l')])=λm=>if nm=m then A (.row e<|l++l')else h' m:=by
     subst hD;cases n0 with
     |none=>funext m;simp[BB,<-x8,Aag]
     |some n=>funext m;simp[BB,<-x8,Aag]
    simp only[this];exact xp
   .simp at hs;subst hs;refine .p _ _<|.one _ _ ?_;rcases xk.2 with⟨g1,g2⟩|⟨g,hd,x6,g1,_⟩
    .exact⟨_,_,_,EB,g1⟩
    .exact⟨_,_,_,EB,g1⟩
   .obtain⟨n,y',_,x7,F,r⟩:=h9 y Q;subst e;exact hn n y' x7 F r
  unfold Asw at h5;cases c with
  |sc v=>
   simp[J]at h5;obtain⟨x5,yp⟩:=FG hev hc;have yd:v=.slice C 0 0/\l=[]:=by
    unfold Ix at hl;split at hl
    .rename_i x1;simp at hl x1;exact⟨x1,by first|exact hl|exact hl.symm⟩
    .rename_i x1;simp at x1
    .rename_i x1;simp at x1
    .simp at hl
   obtain⟨rfl,rfl⟩:=yd;refine xd [] C c'.rds h5.symm rfl ⟨[],⟨σ,.inl ⟨x5,σ⟩⟩,σ⟩ (λb R=>?_) σ;rw[x5]at R;simp[Value.ownBlock]at R
  |own n=>
   obtain⟨yr,h6⟩:=L h5;simp[J]at h6;obtain⟨av,yn,yo,hk,x5⟩:=Hv hev hc;unfold Ix at hl;simp only at hl;split at hl
   .rename_i t' l0 hn;obtain⟨rfl,rfl⟩:=Sh hl;refine xd [(n,C)] (A n) (n::c'.rds) h6.symm rfl ?_ (λb R=>?_) (λn' x7 e=>?_)
    .rcases hr.blk n _ hn with⟨g1,g2⟩|⟨b,hd,cc,te,g1,g2,g3,g4,g5,g6,g7⟩
     .rw[hk]at g1;simp at g1;subst g2;exact⟨[],⟨σ,.inl ⟨g1,σ⟩⟩,σ⟩
     .rw[hk]at g1;simp at g1;subst g6;have ym:l.length*G.sz te<=hd*G.sz te:=w_ _ g3;refine⟨cc.toList.take<|l.length*G.sz te,⟨by simp;omega,.inr ⟨b,hd,cc,g1,W_ _,g2,g3,g7,g4,rfl⟩⟩,λi j y cv Q h8=>?_⟩;obtain⟨u,hu,hg⟩:=g5 i j y cv Q h8;have hi:i<l.length:=(e_.1 Q).1;have hj:j<G.sz te:=by have:=(e_.1 h8).1;rw[y4]at this;exact this
      have:(i+1)*G.sz te<=l.length*G.sz te:=w_ _ ω
      rw[a0_]at this;exact⟨u,by rw[B_ ω];simpa using hu,hg⟩
    .refine⟨n,ρ x,rfl,by rw[hn];simp,hk,?_⟩;rw[x5]at R|-;cases av with
     |none=>simp[Value.ownBlock]at R
     |some ad=>simpa[Value.ownBlock,AX]using R
    .simp at x7;subst x7;subst e
     have:=hfresh n (by rw[<-h6];simp)
     rw[hk]at this;simp at this
   .simp at hl
  |_=>simp[I]at h5
 |_=>simp[AP,Lq,ht,I]at hv
end
end Go.Ab
namespace Go.Ab
variable{G:Sig}
variable{α:Type}{m:M α}
def Law{α:Type}(m:M α):Prop:=∀(R:Type) (k:α->Option R),m R k=(m α A).bind k
def Law.spec{R:Type}(h:Law m){k:α->Option R}{r:R}(p:m R k=A r):∃a,m α A=A a/\k a=A r:=by
 rw[h R k]at p;cases u:m α A with
 |none=>rw[u]at p;simp at p
 |some a=>rw[u]at p;exact⟨a,rfl,p⟩
def Ai(a:α):Law<|J a:=λ_ _=>rfl
def Ap:Law (I:M α):=λ_ _=>rfl
def Ay(b:Bool):Law<|M.need b:=λ_ _=>by cases b<;>rfl
def Bb(o:Option α):Law<|M.opt o:=λ_ _=>by cases o<;>rfl
def Ajb(b:Bool):Law<|M.split b:=λ_ _=>by cases b<;>rfl
def Ad{β:Type}{f:α->M β}(p:Law m)(r:∀a,Law<|f a):Law<|M.bind m f:=λR k=>by
 show m R (λa=>f a R k)=(m β (λa=>f a β A)).bind k;rw[p R,p β];cases m α A with
 |none=>rfl
 |some a=>exact r a R k
section
variable{cf:Dc G}(hcf:∀g args h nm,Law (cf g args h nm)){ev:Operand->Option (Sv G.T)}{h:Nat->Option (W G.T)}{nm:Nat}
theorem Oj(x:Operand):Law<|evP ev x:=λR k=>by unfold evP;split<;>rfl
theorem EH(x:Operand):Law<|evC ev x:=λR k=>by unfold evC;split<;>rfl
theorem FA(x:Operand):Law<|evI ev x:=λR k=>by unfold evI;split<;>rfl
theorem Bfp(x:Operand):Law<|evB ev x:=λR k=>by unfold evB;split<;>rfl
theorem Qi:∀xs:List Operand,Law<|Tw ev xs
 |[]=>Ai _
 |x::t=>Ad (Oj x) λ_=>Ad (Qi t) λ_=>Ai _
theorem Nl:∀xs:List<|Nat×Operand,Law<|IS ev xs
 |[]=>Ai _
 |(_,x)::t=>Ad (Oj x) λ_=>Ad (Nl t) λ_=>Ai _
theorem QC(d m:Nat)(x:Option Operand):Law<|GJ ev d m x:=by
 cases x with
 |none=>exact Ai _
 |some x=>unfold GJ;exact Ad (FA x) λ_=>Ad (Ay _) λ_=>Ai _
theorem Zc(x:Operand):Law<|Qw ev x:=λR k=>by unfold Qw;split<;>rfl
theorem Acy{α:Type}{k:Nat->M α}(p:∀q,Law<|k q)(i:Nat):∀n q:Nat,Law<|M.pick k i q n
 |0,_=>Ap
 |n+1,q=>by
  unfold M.pick;refine Ad (Ajb _) λb=>?_;cases b
  .exact Acy p i n<|q+1
  .exact p q
theorem Bbm(e:Nat)(c:Cv G.T):Law<|An2 h e c:=by
 unfold An2;split
 .exact Ai _
 .exact Ad (Bb _) λ_=>Ai _
theorem Axy(t e:Nat)(l:List<|G.T e)(c k:Cv G.T):Law<|Aaf h t e l c k:=by
 unfold Aaf;split
 .split<;>first|exact Ap|exact Ad (Ay _) λ_=>Ad (Bb _) λ_=>Ai _
 .split<;>first|exact Ap|exact Ad (Ay _) λ_=>Ad (Bb _) λ_=>Ad (Ay _) λ_=>Ai _
 .exact Ap
theorem Aql(e len:Nat)(cs:List<|Cv G.T):Law<|We h nm e len cs:=by
 unfold We;split
 .exact Ad (Ay _) λ_=>Ai _
 .exact Ad (Bb _) λ_=>Ad (Bb _) λ_=>Ai _
theorem Auh(c:Cv G.T)(cs:List<|Cv G.T):Law<|ZJ h c cs:=by
 unfold ZJ;split
 .exact Ad (Bb _) λ_=>Ad (Ay _) λ_=>Ad (Bb _) λ_=>Ai _
 .unfold Ru;exact Ad (Bb _) λ_=>Ai _
theorem Bfo(op:BinOp)(x y:Value):Law<|bin op x y:=by
 unfold bin;split
 .unfold Re;split<;>first
   |exact Ad (Ay _) λ_=>Ai _
   |exact Ad (Ay _) λ_=>Ad (Bb _) λ_=>Ai _
   |exact Ad (Ay _) λ_=>Ad (Ay _) λ_=>Ai _
 .unfold Ad0;split<;>exact Ad (Ay _) λ_=>Ad (Bb _) λ_=>Ai _
 .unfold Ad1;split<;>first|exact Ap|exact Ai _|exact Ad (Ay _) λ_=>Ai _
 .exact Ap
theorem Aqk(b:Builtin)(tys:List Nat)(xs:List Operand):Law<|AP ev h nm b tys xs:=by
 unfold AP;split
 .unfold Vg;split
  .refine Ad (EH _) λc=>?_;split<;>first|exact Ap|exact Ai _
  .exact Ai _
  .exact Ad (EH _) λ_=>Bbm _ _
  .exact Ap
 .unfold As1;exact Ad (FA _) λ_=>Ad (FA _) λ_=>Ad (Ay _) λ_=>Ai _
 .unfold As0;exact Ad (FA _) λ_=>Ad (FA _) λ_=>Ad (Ay _) λ_=>Ai _
 .unfold Ak2;exact Ad (FA _) λ_=>Ad (FA _) λ_=>Ad (FA _) λ_=>Ad (Ay _) λ_=>Ad (Ay _) λ_=>Ai _
 .unfold Ak1;exact Ad (FA _) λ_=>Ad (FA _) λ_=>Ad (FA _) λ_=>Ad (Ay _) λ_=>Ad (Ay _) λ_=>Ai _
 .unfold Lq;split
  .refine Ad (Ay _) λ_=>Ad (EH _) λc=>Ad (EH _) λ_=>Ad (Bb _) λ_=>Ad (Bb _) λ_=>Ad (Ay _) λ_=>?_;unfold Asw;split
   .exact Ai _
   .exact Ad (Ay _) λ_=>Ai _
   .exact Ap
  .exact Ap
 .unfold Qy;split
  .exact Ad (Ay _) λ_=>Ad (EH _) λ_=>Ad (EH _) λ_=>Ad (Bb _) λ_=>Axy _ _ _ _ _
  .exact Ap
 .exact Ap
theorem Ae2{α:Type}(i:Nat)(f:Nat->Option α):∀l,Law<|TQ i f l
 |[]=>Ap
 |q::t=>λR k=>by
  simp only[TQ];cases aD i q with
  |true=>exact Bb _ R k
  |false=>exact Ae2 i f t R k
theorem Axz(h:Nat->Option (W G.T))(n:Nat)(c:Cv G.T):Law<|UC h n c:=by
 unfold UC;cases Aad h c with
 |false=>exact Bb _
 |true=>
  rw[i_];split
  .exact Ae2 _ _ _
  .exact Ap
include hcf
theorem Aal(op:Op):Law<|act cf ev h nm op:=by
 cases op
 case makeFunc fn a b=>
  cases fn
  case func f=>show Law (Uf ev f a.toList b.toList);unfold Uf;exact Ad (Qi _) λ_=>Ad (Qi _) λ_=>Ad (Bb _) λ_=>Ad (Bb _) λ_=>Ai _
  all_goals exact Ap
 case call c=>
  obtain⟨callee,xs,tys⟩:=c;cases callee
  case value f=>
   show Law (OP cf ev h nm f xs.toList);unfold OP;refine Ad (EH _) λc=>Ad (Qi _) λa=>?_;cases c<;>try exact Ap
   show Law (match G.ext _ with|0=>_|1=>_|_=>_);split
   .exact hcf _ _ _ _
   .unfold WP;split<;>first|exact Ap|exact Ai _
   .unfold WQ;split<;>first|exact Ap|exact Ai _
  case builtin b=>exact Aqk _ _ _
  case invoke=>exact Ap
 case move x=>exact Zc x
 case assign x=>exact Zc x
 case pick c a b=>show Law (Ug ev c a b);unfold Ug;exact Ad (Bfp _) λ_=>Ad (Ajb _) λ_=>Zc _
 case alloc t=>show Law (Yk nm t);unfold Yk;split<;>first|exact Ap|exact Ai _
 case box t x=>show Law (Ym ev nm x);unfold Ym;exact Ad (Oj _) λ_=>Ad (Ay _) λ_=>Ai _
 case build t ps=>show Law (QT ev t ps.toList);unfold QT;split<;>first|exact Ap|exact Ad (Nl _) λ_=>Ad (Bb _) λ_=>Ai _
 case buildSlice t n ps=>show Law (EY ev h nm t n ps.toList);unfold EY;split<;>first|exact Ap|exact Ad (Nl _) λ_=>Ad (Ay _) λ_=>Ad (Bb _) λ_=>Aql _ _ _
 case load t a=>show Law (OR ev h t a);unfold OR;exact Ad (EH _) λ_=>Ad (Axz _ _ _) λ_=>Ad (Bb _) λ_=>Ai _
 case store t a x=>show Law (Md ev h t a x);unfold Md;exact Ad (EH _) λ_=>Ad (Oj _) λ_=>Ad (Ay _) λ_=>Auh _ _
 case nilCheck x=>show Law (Yn ev x);unfold Yn;exact Ad (EH _) λ_=>Ad (Ay _) λ_=>Ai _
 case binOp op t x y u=>
  show Law (Yl ev op t x y);unfold Yl;refine Ad (Oj _) λa=>Ad (Oj _) λb=>?_;unfold Bam;split
  .unfold Bak;cases Aun _ with
   |true=>rw[i_];refine Ad (Bb _) λq=>?_;unfold Bal;split<;>first|exact Ap|exact Ai _
   |false=>
   simp only[j_];split
   .unfold Al9;split
    .split<;>first|exact Ap|exact Ai _
    .exact Ad (Bfo _ _ _) λ_=>Ai _
   .exact Ap
  .refine Ad (Ay _) λ_=>Ad (Bb _) λ_=>?_;split<;>first|exact Ap|exact Ai _
  .exact Ap
 case unOp op t x=>show Law (aUn ev op x);unfold aUn;refine Ad (EH _) λc=>?_;unfold unP;split<;>first|exact Ap|exact Ai _|exact Ad (Bb _) λ_=>Ai _
 case convert s t x=>
  show Law (OQ ev h s t x);unfold OQ;refine Ad (Ay _) λ_=>Ad (EH _) λc=>?_;have p:∀y,Law<|Aae (G:=G) y c:=λy=>by unfold Aae;split<;>first|exact Ap|exact Ai _
  split
  .cases Aez (G.ty t)with
   |true=>rw[i_];refine Ad (Ay _) λ_=>Ad (Bb _) λ_=>Ai _
   |false=>rw[j_];exact p _
  .exact p _
 case makeSlice t x y=>show Law (Jk ev nm t x y);unfold Jk;split<;>first|exact Ap|exact Ad (FA _) λ_=>Ad (FA _) λ_=>Ad (Ay _) λ_=>Ad (Bb _) λ_=>Ai _
 case slice t x lo hi mx=>
  show Law (QW ev t x lo hi mx);unfold QW;split
  .exact Ap
  .split
   .refine Ad (EH _) λc=>?_;unfold Wg;split<;>first|exact Ap|exact Ad (QC _ _ _) λ_=>Ad (QC _ _ _) λ_=>Ai _
   .refine Ad (EH _) λc=>?_;unfold Wf;split<;>first|exact Ap|exact Ad (Ay _) λ_=>Ad (QC _ _ _) λ_=>Ad (QC _ _ _) λ_=>Ai _
   .refine Ad (EH _) λc=>?_;unfold Ao4;split<;>first|exact Ap|exact Ai _
   .exact Ap
 case fieldAddr t x f=>show Law (Jj ev t x f);unfold Jj;split<;>first|exact Ap|exact Ad (EH _) λ_=>Ad (Bb _) λ_=>Ad (Bb _) λ_=>Ai _
 case field t x f=>
  show Law (QU ev t x f);unfold QU;split
  .refine Ad (Oj _) λy=>?_;unfold Aem;split<;>first|exact Ap|exact Ad (Bb _) λ_=>Ad (Bb _) λ_=>Ad (Bb _) λ_=>Ai _
  .exact Ap
 case indexAddr t x i=>
  show Law (FQ ev h t x i);unfold FQ;split
  .refine Ad (EH _) λc=>Ad (FA _) λi=>?_;unfold ixA;split<;>first|exact Ap|exact Ad (Ay _) λ_=>Ad (Bb _) λ_=>Ad (Bb _) λ_=>Ai _|exact Ad (Ay _) λ_=>Ai _
  .refine Ad (EH _) λc=>Ad (FA _) λi=>?_;unfold ixS;split
   .split<;>first|exact Ap|exact Ad (Ay _) λ_=>Ad (Ay _) λ_=>Ai _
   .exact Ad (Ay _) λ_=>Ad (Ay _) λ_=>Ai _
   .exact Ad (Ay _) λ_=>Acy (λ_=>Ai _) _ _ _
   .exact Ap
  .exact Ap
 case index t x i=>
  show Law (QV ev t x i);unfold QV;split
  .refine Ad (Oj _) λc=>Ad (FA _) λi=>?_;unfold Ale;split
   .refine Ad (Ay _) λ_=>?_;split
    .exact Acy (λ_=>Ad (Bb _) λ_=>Ad (Bb _) λ_=>Ai _) _ _ _
    .exact Ad (Bb _) λ_=>Ad (Bb _) λ_=>Ai _
   .exact Ap
  .refine Ad (EH _) λc=>Ad (FA _) λi=>?_;unfold ixV;split<;>first|exact Ap|exact Ad (Ay _) λ_=>Ai _
  .exact Ap
 case extract x i=>
  show Law (Mc ev x i);intro R k;unfold Mc;split
  .split<;>rfl
  .rfl
 all_goals exact Ap
end
end Go.Ab
namespace Go.Ab
variable{G:Sig}
variable{l:List (Pv G.T)}{out:O G}
def Axf(h:WP l (O G) A=A out):∃n,l=[.one<|.sc<|.float .f64 n]/\out=outV (.int .u64 (n:Int)):=by
 rcases l with _|⟨x,_|⟨y,t⟩⟩
 .simp[WP,I]at h
 .cases x with
  |agg _=>simp[WP,I]at h
  |one c=>
   cases c with
   |sc v=>
    cases v with
    |float k n=>
     cases k with
     |f32=>simp[WP,I]at h
     |f64=>exact⟨n,rfl,(s_ h).symm⟩
    |_=>simp[WP,I]at h
   |_=>simp[WP,I]at h
 .simp[WP,I]at h
def Axg(h:WQ l (O G) A=A out):∃n,l=[.one<|.sc<|.int .u64 n]/\out=outV (.float .f64 n.toNat):=by
 rcases l with _|⟨x,_|⟨y,t⟩⟩
 .simp[WQ,I]at h
 .cases x with
  |agg _=>simp[WQ,I]at h
  |one c=>
   cases c with
   |sc v=>
    cases v with
    |int k n=>cases k<;>first|exact⟨n,rfl,(s_ h).symm⟩|simp[WQ,I]at h
    |_=>simp[WQ,I]at h
   |_=>simp[WQ,I]at h
 .simp[WQ,I]at h
structure CfOK(P:Program)(G:Sig)(cf:Dc G):Prop where
 law:∀g args h nm,Law (cf g args h nm)
 calls:∀g args h nm out,cf g args h nm (Out G) some=some out->
  (∃ fn, P.funcs[g]? = some fn /\ (fn.name == "runtime.NumGoroutine") = false /\ fn.body.isNone = false) /\
  ∀(ν:Nat->Option Value) (S B:Nat->Prop) (w:World) (vals:List Value),HRel G ν S B h w->(∀b,w.heap.size<=b->B b)->(∀n∈out.nw,ν n=none)->F2 (Rp G ν S w.heap) args vals->
   Calls P g vals.toArray w λe w'=>∃v ν' S',e=.returned v/\Post G ν S B h w out (BB h out.d) ν' S' w' v
def XO{ev:Operand->Option (Sv G.T)}{h:Nat->Option (W G.T)}{nm:Nat}{b:Builtin}{tys:List Nat}{xs:List Operand}(k:AP ev h nm b tys xs (O G) A=A out):
  (b=.len/\∃t F x,tys=t::F/\xs=[x])\/(b=.min/\∃x y,xs=[x,y])\/(b=.max/\∃x y,xs=[x,y])\/(b=.append/\∃t x y,tys=[t,t]/\xs=[x,y])\/
  (b=.min/\∃x y z,xs=[x,y,z])\/(b=.max/\∃x y z,xs=[x,y,z])\/(b=.copy/\∃t x y,tys=[t,t]/\xs=[x,y]):=by
 cases b with
 |len=>rcases tys with _|⟨t,F⟩<;>rcases xs with _|⟨x,_|⟨y,D⟩⟩<;>first|(simp[AP,I]at k;done)|exact .inl ⟨rfl,_,_,_,rfl,rfl⟩
 |min=>rcases xs with _|⟨x,_|⟨y,_|⟨z,_|⟨u,D⟩⟩⟩⟩<;>first|(simp[AP,I]at k;done)|exact .inr (.inl ⟨rfl,_,_,rfl⟩)|exact .inr<|.inr<|.inr<|.inr<|.inl ⟨rfl,_,_,_,rfl⟩
 |max=>rcases xs with _|⟨x,_|⟨y,_|⟨z,_|⟨u,D⟩⟩⟩⟩<;>first|(simp[AP,I]at k;done)|exact .inr (.inr<|.inl ⟨rfl,_,_,rfl⟩)|exact .inr<|.inr<|.inr<|.inr<|.inr<|.inl ⟨rfl,_,_,_,rfl⟩
 |append=>
  rcases tys with _|⟨t,_|⟨r,_|⟨R,F⟩⟩⟩<;>rcases xs with _|⟨x,_|⟨y,_|⟨z,D⟩⟩⟩<;>first|(simp[AP,I]at k;done)|skip
  have p:Lq ev h nm t r x y (O G) A=A out:=k
  have:t=r:=by unfold Lq at p;cases Q:G.ty t<;>simp only[Q]at p<;>first|(simp[I]at p;done)|exact AQ.1 (L p).1
  subst this;exact .inr<|.inr<|.inr<|.inl ⟨rfl,_,_,_,rfl,rfl⟩
 |copy=>
  rcases tys with _|⟨t,_|⟨r,_|⟨R,F⟩⟩⟩<;>rcases xs with _|⟨x,_|⟨y,_|⟨z,D⟩⟩⟩<;>first|(simp[AP,I]at k;done)|skip
  have p:Qy ev h t r x y (O G) A=A out:=k
  have:t=r:=by unfold Qy at p;cases Q:G.ty t<;>simp only[Q]at p<;>first|(simp[I]at p;done)|exact AQ.1 (L p).1
  subst this;exact .inr<|.inr<|.inr<|.inr<|.inr<|.inr ⟨rfl,_,_,_,rfl,rfl⟩
 |_=>simp[AP,I]at k
section
variable{P:Program}{ν:Nat->Option Value}{S B:Nat->Prop}{h:Nat->Option (W G.T)}{w:World}{a:Act}{o:Oper}
variable(ok:SigOK P G)(eqok:EqOK P G){cf:Dc G}(cfok:CfOK P G cf)
 {ev:Operand->Option (Sv G.T)}(hev:∀x s,ev x=A s->Rs G ν S w.heap s (a.eval x)) (hr:HRel G ν S B h w) (hB:∀b,w.heap.size<=b->B b)
 {nm:Nat}{out:O G}(hfresh:∀n∈out.nw,ν n=C)
include ok eqok cfok hev hr hB hfresh
theorem Biq(k:act cf ev h nm o.op (O G) A=A out){K:Act->World->Prop}{Q:Exit->Act->World->Prop}
  (hK:∀ν' S' w' v,Post G ν S B h w out (BB h out.d) ν' S' w' v->K (a.put o.dst v) w'):o.wp P a w K Q:=by
 have D:Z P G a.eval o ν S B h w out->o.wp P a w K Q:=by
  rintro⟨nx,w',v,ν',S',h4,hu,hp⟩;unfold Oper.wp;rw[h4];rcases hu with rfl|⟨rfl,rfl⟩
  .exact hK _ _ _ _ hp
  .exact hK _ _ _ _ hp
 cases F:o.op with
 |move x=>rw[F]at k;exact D<|Aji hev hr (.inl F) k
 |assign x=>rw[F]at k;exact D<|Aji hev hr (.inr F) k
 |pick c x y=>rw[F]at k;exact D<|Ayo hev hr F k
 |alloc t=>rw[F]at k;exact D<|Asu ok hr hB hfresh F k
 |box t x=>rw[F]at k;exact D<|Bar hev hr hB hfresh F k
 |build t ps=>rw[F]at k;exact D<|As7 ok hev hr F k
 |buildSlice t n ps=>rw[F]at k;exact D<|Ad3 ok hev hr hB hfresh F k
 |load t x=>rw[F]at k;exact D<|Ax5 ok hev hr F k
 |store t x y=>rw[F]at k;exact D<|Avq ok hev hr F k
 |nilCheck x=>rw[F]at k;exact D<|Bb4 hev hr F k
 |binOp op t x y u=>rw[F]at k;exact D<|Ban ok eqok hev hr F k
 |unOp op t x=>rw[F]at k;exact D<|Bgj hev hr F k
 |convert s t x=>rw[F]at k;exact D<|Aw2 ok hev hr F k
 |makeFunc fn x y=>
  rw[F]at k;cases fn with
  |func f=>exact D<|Akm hev hr F k
  |_=>simp[act,I]at k
 |makeSlice t x y=>rw[F]at k;exact D<|Ahl ok hev hr hB hfresh F k
 |slice t x lo hi mx=>rw[F]at k;exact D<|Avj ok hev hr F k
 |fieldAddr t x f=>rw[F]at k;exact D<|Ag6 ok hev hr F k
 |field t x f=>rw[F]at k;exact D<|At3 ok hev hr F k
 |indexAddr t x i=>rw[F]at k;exact D<|Ahb ok hev hr F k
 |index t x i=>rw[F]at k;exact D<|Aue ok hev hr F k
 |extract x i=>rw[F]at k;exact D<|Ana hev hr F k
 |call c=>
  rw[F]at k;obtain⟨callee,xs,tys⟩:=c;cases callee with
  |invoke r m=>exact absurd k (by intro e;cases e)
  |builtin b=>
   have k:AP ev h nm b tys.toList xs.toList (O G) A=A out:=k;rcases XO k with⟨rfl,t,ts,x,h1,h2⟩|⟨rfl,x,y,h1⟩|⟨rfl,x,y,h1⟩|⟨rfl,t,x,y,h1,h2⟩|⟨rfl,x,y,z,h1⟩|⟨rfl,x,y,z,h1⟩|⟨rfl,t,x,y,h1,h2⟩
   .exact D<|Bbo ok hev hr F ⟨_,h1⟩ h2 k
   .exact D<|Abo hev hr (.inl rfl) F h1 k
   .exact D<|Abo hev hr (.inr rfl) F h1 k
   .exact D<|App ok hev hr hB hfresh F h1 h2 k
   .exact D<|Zk hev hr (.inl rfl) F h1 k
   .exact D<|Zk hev hr (.inr rfl) F h1 k
   .exact D<|Aw3 ok hev hr F h1 h2 k
  |value f=>
   have k:OP cf ev h nm f xs.toList (O G) A=A out:=k;unfold OP at k;obtain⟨c,hc,h1⟩:=aB k;obtain⟨as,h2,has⟩:=Ad2 h1;unfold Wz at h2;cases c with
   |clo g fst hw=>
    simp only at h2;obtain⟨vp,vq,hv,hk,hj⟩:=Hv hev hc;have h7:∀(ps:List<|Nat×Nat) (vs:List Value),F2 (RPtr ν) ps vs->F2 (Rp G ν S w.heap) (ps.map Ac7) vs:=λps vs hg=>F2.map_left (hg.mono λp v ht=>.one _ _ ht);have ha:F2 (Rp G ν S w.heap) as<|xs.toList.map a.eval:=by
     refine⟨by simp[has.1],λi x v hx hv=>?_⟩;rw[b3_]at hv;cases hq:xs.toList[i]? with
     |none=>simp[hq]at hv
     |some y=>simp[hq]at hv;subst hv;exact TK hev<|has.2 i y x hq hx
    have R:=(h7 _ _ hk).append<|ha.append<|h7 _ _ hj;have h6:∀(m:Nat) (u:Value),G.ext g=m->m≠0->((Ba8 m) (vp++(xs.toList.map a.eval++vq)).toArray).run P w=.ok u w->out=outV u->Kg u=N->o.wp P a w K Q:=by
     intro m u hm h0 h4 he hn;obtain⟨fn,f1,f2,f3,f4,f5⟩:=ok.ext g (by rw[hm];exact h0);rw[hm]at f5;refine D ?_;rw[he];refine aA hr ?_ hn;unfold execOp;rw[F]
     have:=run_callFunc_extern f1 f2 f3 f4 f5 (vp++(xs.toList.map a.eval++vq)).toArray w
     rw[h4]at this;simp only[resolve,hv,Deferred.ofValue,invoke,K_,a2_,u_];rw[show(vp++(xs.toList.map a.eval++vq)).toArray=vp.toArray++(xs.map a.eval++vq.toArray)from by apply Array.ext';simp]at this;simpa using this
    generalize hm:G.ext g=m at h2
    match m,hm,h2 with
    |1,hm,h2=>
     obtain⟨n,hl,h3⟩:=Axf h2;rw[hl]at R;obtain⟨v0,t0,e0,hf,h9⟩:=R.inv;obtain rfl:=h9.inv_nil;have e1:v0=.float .f64 n:=by cases hf with|one _ _ hc=>cases(show Rd G S w.heap (.sc<|.float .f64 n) v0 from hc);rfl
     exact h6 1 _ hm ω (by rw[e0,e1];rfl) h3 rfl
    |m+2,hm,h2=>
     obtain⟨n,hl,h3⟩:=Axg h2;rw[hl]at R;obtain⟨v0,t0,e0,hf,h9⟩:=R.inv;obtain rfl:=h9.inv_nil;have e1:v0=.int .u64 n:=by cases hf with|one _ _ hc=>cases(show Rd G S w.heap (.sc<|.int .u64 n) v0 from hc);rfl
     exact h6 (m+2) _ hm ω (by rw[e0,e1];rfl) h3 rfl
    |0,hm,h2=>
     obtain⟨⟨fn,hs,hb,hd⟩,h5⟩:=cfok.calls g _ h nm out h2;have hc:=h5 ν S B w _ hr hB hfresh R;have h8:(execOp a.eval o).run P w=.ok (.enter g (vp++(xs.toList.map a.eval++vq)).toArray) w:=by unfold execOp;rw[F];simp only[resolve,hv,Deferred.ofValue,invoke,callFunc,K_,a2_,u_,run_program,hs,hb,hd];simp[<-Array.toList_map]
     unfold Oper.wp;rw[h8];refine hc.mono λe w' ⟨v,ν',S',he,hp⟩=>?_;subst he;exact hK _ _ _ _ hp
   |_=>simp[I]at h2
 |_=>rw[F]at k;simp[act,I]at k
end
end Go.Ab
namespace Go.Ab
variable{G:Sig}
variable{ν:Nat->Option Value}{S:Nat->Prop}{a:Act}{w:World}{st:St G}{ops:Array Oper}{d:Option Nat}{v:Value}{o:Oper}{b:Bool}{gs g j:Nat}
structure Cx where
 w0:World
 mo:Nat->Prop
 s0:Nat->Prop
 nu0:Nat->Option Value
 nt:Nat
 df:List Deferred:=[]
def Cx.own(cx:Cx)(b:Nat):Prop:=cx.mo b\/cx.w0.heap.size<=b
structure RelI(G:Sig)(cx:Cx)(ν:Nat->Option Value)(S:Nat->Prop)(st:St G)(a:Act)(w:World):Prop where
 slot:∀k s,get st.tm k=some s->Rs G ν S w.heap s (a.tmps.getD k undef)
 heap:HRel G ν S cx.own (get st.hp) w
 used:∀n,ν n≠none->n∈st.us
 defers:a.defers=cx.df
 nt:a.tmps.size=cx.nt
 size:cx.w0.heap.size<=w.heap.size
 frame:∀b,b<cx.w0.heap.size->¬cx.mo b->w.heap[b]?=cx.w0.heap[b]?
 env:w.os=cx.w0.os/\w.tape=cx.w0.tape/\w.output=cx.w0.output
 sub:∀b,S b->cx.s0 b\/cx.own b
 keep:∀b,cx.s0 b->S b
 names:∀n x,cx.nu0 n=some x->ν n=some x
def Rel(G:Sig)(cx:Cx)(st:St G)(a:Act)(w:World):Prop:=∃ν S,RelI G cx ν S st a w
def Rel.drawn{cx:Cx}(h:Rel G cx st a w)(n:Nat):Rel G cx st a { w with drawn:=n }:=
 let⟨ν,S,r⟩:=h
 ⟨ν,S,⟨r.slot,⟨r.heap.blk,r.heap.apart,r.heap.own,r.heap.stay,r.heap.gl⟩,r.used,r.defers,r.nt,r.size,r.frame,r.env,r.sub,r.keep,r.names⟩⟩
def Art{h:Array Obj}(k:Kg v=N):Rd G S h (.sc v) v:=.sc v k
def Aqg{tm:List<|Nat×Sv G.T}(R:GlOK G S w.heap)(hs:∀k s,Y tm k=A s->Rs G ν S w.heap s (a.tmps.getD k undef))(x:Operand)(s:Sv G.T)
  (r:Pa tm x=A s):Rs G ν S w.heap s<|a.eval x:=by
 cases x with
 |tmp t=>exact hs t s r
 |global g=>
  simp only[Pa]at r;split at r
  .rename_i p hp;simp at r;subst r;exact .p _ _<|.one _ _ (R g p hp).1
  .simp at r
 |func f=>simp[Pa]at r;subst r;exact .p _ _<|.one _ _ ⟨[],[],rfl,.nil,.nil⟩
 |const v=>
  have one:(bif Kg v then A (Sv.p<|Pv.one<|Cv.sc v)else C)=A s->Rs G ν S w.heap s v:=by
   intro h;cases D:Kg v with
   |false=>simp[D]at h
   |true=>simp[D]at h;subst h;exact .p _ _<|.one _ _<|Art D
  cases v with
  |agg cs=>
   simp only[Pa]at r;cases u:cs.toList.all Kg with
   |false=>rw[u]at r;simp at r
   |true=>
    rw[u]at r;simp at r;subst r;refine .p _ _ ?_
    have:(Value.agg cs)=.agg cs.toList.toArray:=by simp
    show Rp G ν S w.heap _ (Value.agg cs);rw[this];refine .agg _ _<|F2.map_left ⟨rfl,λi x y Q F=>?_⟩;rw[Q]at F;simp at F;subst F;exact Art<|G_.1 u x<|p_ Q
  |_=>exact one r
def Anm{d:Nat}(p:d<a.tmps.size)(k:Nat):(a.put (A d) v).tmps.getD k undef=if d=k then v else a.tmps.getD k undef:=by
 simp only[Act.put,v_,g0_];by_cases e:d=k
 .subst e;simp[p]
 .simp[e]
def Ao3:(a.put d v).tmps.size=a.tmps.size:=by cases d<;>simp[Act.put]
def Atv:(a.put d v).defers=a.defers:=by cases d<;>rfl
def RelI.drop{cx:Cx}(r:RelI G cx ν S st a w)(y:NM cx.nt d=N):
  RelI G cx ν S (st.drop d) (a.put d undef) w:=by
 cases d with
 |none=>exact r
 |some d=>
  have u:d<a.tmps.size:=by rw[r.nt];simp[NM,aF]at y;omega
  refine⟨λk s p=>?_,r.heap,r.used,r.defers,by rw[Ao3];exact r.nt,r.size,r.frame,r.env,r.sub,r.keep,r.names⟩;simp only[St.drop,SI]at p;rw[Anm u];by_cases e:d=k
  .rw[if_pos e]at p|-;simp at p;subst p;exact .tup _ _ .nil
  .rw[if_neg e]at p|-;exact r.slot k s p
def RelI.note{cx:Cx}(r:RelI G cx ν S st a w)(y:Y st.tm g=A (.p<|.one<|.sc<|.bool b)):
  RelI G cx ν S (st.note<|A (g,b)) a w:=by
 refine⟨λk s u=>?_,r.heap,r.used,r.defers,r.nt,r.size,r.frame,r.env,r.sub,r.keep,r.names⟩;simp only[St.note,SI]at u;by_cases e:g=k
 .subst e;simp at u;subst u;exact r.slot g _ y
 .rw[if_neg e]at u;exact r.slot k s u
def Ajv{cx:Cx}(r:RelI G cx ν S st a w)(k:Y st.tm g=A (.p<|.one<|.sc<|.bool b)):
  a.tmps.getD g undef=.bool b:=by
 have h:=r.slot g _ k;generalize a.tmps.getD g undef=v at h;cases h with
 |p _ _ h=>
  cases h with
  |one _ _ h=>have h':Rd G S w.heap (.sc<|.bool b) v:=h;cases h';rfl
def RelI.next{cx:Cx}(r:RelI G cx ν S st a w)(hd:NM cx.nt d=N){out:O G}
  {ν':Nat->Option Value}{S':Nat->Prop}{w':World}{v:Value}(hp:Post G ν S cx.own (Y st.hp) w out (BB (Y st.hp) out.d) ν' S' w' v):RelI G cx ν' S' (st.next d out) (a.put d v) w':=by
 have F:=hp.le r.heap;refine⟨λk s p=>?_,?_,λn D=>?_,by rw[Atv];exact r.defers,by rw[Ao3];exact r.nt,c5_ r.size hp.size,λb y R=>?_,?_,λb y=>?_,λb y=>hp.st b<|r.keep b y,λn x D=>hp.nu n x<|r.names n x D⟩
 .cases d with
  |none=>exact(r.slot k s p).mono F
  |some d=>
   have Q:d<a.tmps.size:=by rw[r.nt];simp[NM,aF]at hd;omega
   rw[Anm Q];simp only[St.next]at p;split at p
   .rename_i u hu;rw[SI]at p;by_cases e:d=k
    .rw[if_pos e]at p|-;simp at p;subst p;exact hp.val _ hu
    .rw[if_neg e]at p|-;exact(r.slot k s p).mono F
   .rw[VS]at p;by_cases e:d=k
    .rw[if_pos e]at p;simp at p
    .rw[if_neg e]at p|-;exact(r.slot k s p).mono F
 .simp only[St.next,Xd];exact hp.rel
 .rcases hp.new n D with h|h
  .exact m_.2<|.inr<|r.used n h
  .exact m_.2<|.inl h
 .rw[hp.frame b (d4_ y r.size) λn x D hx e=>?_]
  .exact r.frame b y R
  .rcases(r.heap.own n x b D hx e).2 with h|h
   .exact R h
   .omega
 .exact⟨hp.env.1.trans r.env.1,hp.env.2.1.trans r.env.2.1,hp.env.2.2.trans r.env.2.2⟩
 .rcases hp.stn b y with h|h
  .exact r.sub b h
  .exact .inr h
def YS{us l:List Nat}(h:JG us l=N):∀n∈l,n∉us:=by
 induction l with
 |nil=>simp
 |cons k t r=>
  simp only[JG,b_]at h;intro n p;rcases A_.1 p with rfl|p
  .intro u;rw[(Hp us n).2 u]at h;simp at h
  .exact r h.2 n p
section
variable{P:Program}(ok:SigOK P G)(eqok:EqOK P G){cf:Dc G}(cfok:CfOK P G cf){cx:Cx}
omit eqok ok in
theorem UA(ops:Array Oper)(tm:List<|Nat×Sv G.T)(o:Oper):Law<|SJ ops tm o:=by
 unfold SJ;split
 .exact Ai _
 .intro R k;unfold Aev;split
  .split
   .rename_i b _;cases b<;>rfl
   .rfl
   .rfl
  .rfl
include cfok in
theorem An0(ops:Array Oper)(o:Oper)(st:St G):Law<|Alm cf cx.nt ops o st:=by
 refine Ad (Ay _) λ_=>Ad (UA _ _ _) λg=>?_;split
 .exact Ad (Aal cfok.law _) λ_=>Ad (Ay _) λ_=>Ai _
 .exact Ai _
include cfok in
theorem Sw(ops:Array Oper):∀(l:List Oper) (st:St G),Law<|TN cf cx.nt ops l st
 |[],_=>Ai _
 |o::t,st=>Ad (An0 cfok ops o st) λst=>Sw ops t st
inductive StepTo(cf:Dc G)(nt:Nat)(ops:Array Oper)(o:Oper)(st st':St G):Prop
 |act (g:Option (Nat×Bool)) (out:Out G) (hd:NM nt o.dst=true)
   (hg:∀p,g=some p->get st.tm p.1=some (.p (.one (.sc (.bool p.2))))/\∃j want,o.guard=some (j,want)/\(ops[j]?).bind (·.dst)=some p.1/\p.2=want)
   (hn:g=none->o.guard=none) (hact:act cf (Pa st.tm) (get st.hp) (Ala 0 o.dst) o.op (Out G) some=some out) (hf:JG st.us out.nw=true) (e:st'=(st.note g).next o.dst out)
 |skip (p:Nat×Bool) (j:Nat) (want:Bool) (hd:NM nt o.dst=true) (hp:get st.tm p.1=some (.p (.one (.sc (.bool p.2))))) (hg:o.guard=some (j,want)) (hj:(ops[j]?).bind (·.dst)=some p.1) (hw:p.2≠want)
   (e:st'=(st.note (some p)).drop o.dst)
 |skipU (gs j:Nat) (want:Bool) (hd:NM nt o.dst=true) (hp:get st.tm gs=some (.tup [])) (hg:o.guard=some (j,want)) (hj:(ops[j]?).bind (·.dst)=some gs)
   (e:st'=st.drop o.dst)
include cfok in
theorem Bge{nt:Nat}{st':St G}(h:Alm cf nt ops o st (St G) A=A st'):StepTo cf nt ops o st st':=by
 unfold Alm at h;obtain⟨hd,h1⟩:=L h;obtain⟨⟨go,g⟩,k,F⟩:=(UA ops st.tm o).spec<|aC h1;have y:∀(hg:∀p,g=A p->Y st.tm p.1=A (.p<|.one<|.sc<|.bool p.2)/\∃j r,o.guard=A (j,r)/\(ops[j]?).bind (·.dst)=A p.1/\p.2=r) (hn:g=C->o.guard=C),go=N->StepTo cf nt ops o st st':=by intro hg hn k;subst k;simp only at F;obtain⟨out,Q,h3⟩:=(Aal cfok.law _).spec<|aC F;obtain⟨hf,h4⟩:=L h3;simp[J]at h4;exact .act g out hd hg hn Q hf h4.symm
 unfold SJ at k;cases u:o.guard with
 |none=>simp[u,J]at k;obtain⟨rfl,rfl⟩:=k;exact y σ (λ_=>u) rfl
 |some jw=>
  obtain⟨j,r⟩:=jw;simp only[u,Aev]at k;split at k
  .rename_i gs D;split at k
   .rename_i b hb;have h0:∀R:Bool,Y st.tm gs=A (.p<|.one<|.sc<|.bool R)->R≠r->go=false->g=A (gs,R)->StepTo cf nt ops o st st':=by
     intro R h5 h6 h7 h8;subst h7;simp[J]at F;exact .skip (gs,R) j r hd h5 u D h6 (by rw[<-h8];exact F.symm)
    cases b with
    |true=>
     simp at k;obtain⟨rfl,rfl⟩:=k;cases r with
     |true=>exact y (by rintro p hp;simp at hp;subst hp;exact⟨hb,j,N,u,D,rfl⟩) σ rfl
     |false=>exact h0 N hb σ rfl rfl
    |false=>
     simp at k;obtain⟨rfl,rfl⟩:=k;cases go with
     |false=>exact h0 false hb σ rfl rfl
     |true=>exact y (by rintro p hp;simp at hp;subst hp;exact⟨hb,j,_,u,D,rfl⟩) σ rfl
   .rename_i hu;simp at k;obtain⟨rfl,rfl⟩:=k;simp[J]at F;exact .skipU gs j r hd hu u D F.symm
   .simp at k
  .simp at k
theorem Api{cx:Cx}(r:RelI G cx ν S st a w){k:Bool}(u:o.guard=A (j,k))
  (D:(ops[j]?).bind (·.dst)=A gs) (F:Y st.tm gs=A (.tup [])):Region.wanted o (yielded ops a.tmps)=false:=by
 have h:=r.slot gs _ F;have p:a.tmps[gs]?=C\/a.tmps[gs]?=A (.tuple #[]):=by
  cases hq:a.tmps[gs]? with
  |none=>exact .inl rfl
  |some v=>
   right;rw[v_,hq]at h;simp at h;cases h with
   |tup xs vs y=>have:=y.inv_nil;subst this;rfl
 have Q:yielded ops a.tmps j=C:=by unfold yielded;rw[D];rcases p with p|p<;>simp[p]
 simp[Region.wanted,u,Q]
theorem Aj6{cx:Cx}(r:RelI G cx ν S st a w){k:Bool}(u:o.guard=A (j,k))
  (y:(ops[j]?).bind (·.dst)=A gs) (F:Y st.tm gs=A (.p<|.one<|.sc<|.bool b)):Region.wanted o (yielded ops a.tmps)=(b==k):=by
 have h:=Ajv r F;have Q:a.tmps[gs]?=A (.bool b):=by
  rw[v_]at h;cases hq:a.tmps[gs]? with
  |none=>rw[hq]at h;simp[undef]at h
  |some v=>rw[hq]at h;simp at h;rw[h]
 have D:yielded ops a.tmps j=A b:=by unfold yielded;rw[y];simp[Q]
 simp only[Region.wanted,u,D];cases b<;>cases k<;>rfl
include ok eqok cfok in
theorem Aav{st':St G}(h:StepTo cf cx.nt ops o st st')(r:Rel G cx st a w){K:Act->World->Prop}{Q:Exit->Act->World->Prop}
  (hK:∀a' w',Rel G cx st' a' w'->K a' w'):if Region.wanted o (yielded ops a.tmps)then o.wp P a w K Q else K (a.put o.dst undef) w:=by
 obtain⟨ν,S,r⟩:=r;cases h with
 |act g out D y hn F hf e=>
  have hw:Region.wanted o (yielded ops a.tmps)=N:=by
   cases g with
   |none=>simp[Region.wanted,hn rfl]
   |some p=>obtain⟨h1,j,k,h2,h3,h4⟩:=y p rfl;rw[Aj6 r h2 h3 h1,h4];simp
  rw[if_pos hw];have h0:∀n∈out.nw,ν n=C:=by
   intro n hn;cases hv:ν n with
   |none=>rfl
   |some x=>exact absurd (r.used n (by simp[hv]))<|YS hf n hn
  refine Biq ok eqok cfok (λx s=>Aqg r.heap.gl r.slot x s) r.heap (λb hb=>.inr<|c5_ r.size hb) h0 F λν' S' w' v hp=>hK _ _ ?_;subst e;have r':RelI G cx ν S (st.note g) a w:=by
   cases g with
   |none=>exact r
   |some p=>exact r.note (y p rfl).1
  have h5:(st.note g).hp=st.hp:=by cases g<;>rfl
  exact⟨ν',S',r'.next D (by rw[h5];exact hp)⟩
 |skip p j k D hp y R hw e=>
  have u:Region.wanted o (yielded ops a.tmps)=false:=by rw[Aj6 r y R hp];cases hb:p.2<;>cases h6:k<;>simp_all
  rw[if_neg (by simp[u])];subst e;exact hK _ _ ⟨ν,S,(r.note hp).drop D⟩
 |skipU gs j k D hp y R e=>have u:=Api r y R hp;rw[if_neg (by simp[u])];subst e;exact hK _ _ ⟨ν,S,r.drop D⟩
include ok eqok cfok in
theorem ZC{ops:Array Oper}{Q:Exit->Act->World->Prop}:∀(l:List Oper) (st st':St G) (a:Act) (w:World),TN cf cx.nt ops l st (St G) A=A st'->Rel G cx st a w->
  (∀p w',Rel G cx st' p w'->Q .normal p w')->wpList P ops Q l a w
 |[],st,st',a,w,h,r,u=>by simp[TN,J]at h;subst h;exact u a w r
 |o::t,st,st',a,w,h,r,u=>by
  unfold TN at h;obtain⟨y,h1,R⟩:=(An0 cfok ops o st).spec<|aC h;have k:=Aav ok eqok cfok (Bge cfok h1) r (K:=wpList P ops Q t) (Q:=Q) λp w' F=>ZC t y st' p w' R F u;unfold wpList;by_cases D:Region.wanted o (yielded ops a.tmps)=N
  .rw[if_pos D]at k|-;exact .inl k
  .rw[if_neg D]at k|-;exact k
end
end Go.Ab
namespace Go.Ab
variable{G:Sig}
variable{nm:List (Nat×Option Nat)}{h:Nat->Option (W G.T)}{v:Value}{fz:List Nat}{c:Cv G.T}{s:CSh}
def XD{n t:Nat}{l:List<|G.T t}(hr:XC h n t=A l):h n=A (.row t l):=by
 unfold XC at hr;split at hr
 .rename_i p r k;obtain⟨rfl,rfl⟩:=WA hr;exact k
 .simp at hr
def Atg{t k:Nat}{x:G.T t}{x':G.T k}(h:Atf G t k x=A x'):∃e:t=k,e▸x=x':=by
 unfold Atf at h;split at h
 .rename_i e;simp at h;exact⟨e,h⟩
 .simp at h
def Ag5:∀{a b:List<|Nat×Nat},WN a b=N->a=b
 |[],[],_=>rfl
 |[],_::_,h=>by simp[WN]at h
 |_::_,[],h=>by simp[WN]at h
 |(x,y)::s,(u,v)::t,h=>by simp only[WN,b_]at h;rw[Ag5 h.2];have h1:x=u:=AQ.1 h.1.1;have k:y=v:=AQ.1 h.1.2;rw[h1,k]
def Aa8{l:List Nat}:∀{m:List Nat},VJ l m=N->∀n∈m,n∈l
 |[],_,_,h=>by simp at h
 |k::t,h,n,p=>by
  simp only[VJ,b_]at h;rcases A_.1 p with rfl|p
  .exact(Hp l n).1 h.1
  .exact Aa8 h.2 n p
def Ajf:∀{p:List<|Nat×Nat}{q:Nat×Nat},q∈p->q.1∈Ss p
 |x::t,q,h=>by
  rcases A_.1 h with rfl|h
  .simp[Ss]
  .simp[Ss,Ajf h]
structure Ren(ν ν':Nat->Option Value)(S S':Nat->Prop)(h:Nat->Option (Blk G.T))(H:List Nat)(nm:List (Nat×Option Nat))(fz:List Nat)(sh:List (Nat×Nat)):Prop where
 own:∀p∈nm,ν' p.1=match p.2 with|some n=>ν n|none=>some (.slice none 0 0)
 keep:∀n∈H,ν' n=ν n
 frz:∀n∈fz,h n≠none->∀x b,ν n=some x->AX x=some b->S' b
 sub:∀b,S b->S' b
 shr:∀p∈sh,ν' p.1=ν p.2
def XG{m n:Nat}:∀{l:List<|Nat×Option Nat},Afr m n l=N->(m,A n)∈l
 |[],h=>by cases h
 |(k,A j)::t,h=>by
  simp only[Afr,O_,b_]at h;rcases h with⟨h1,p⟩|h
  .rw[AQ.1 h1,AQ.1 p];exact C_ ..
  .exact F_ _<|XG h
 |(_,C)::t,h=>F_ _<|XG (l:=t) h
def ZE{nm:List<|Nat×Option Nat}:∀{l:List<|Nat×Nat},Adi nm l=N->∀p∈l,(p.1,A p.2)∈nm
 |[],_,p,hp=>by cases hp
 |q::t,h,p,hp=>by
  simp only[Adi,b_]at h;rcases A_.1 hp with rfl|hp
  .exact XG h.1
  .exact ZE h.2 p hp
section
variable{ν ν':Nat->Option Value}{S S' B:Nat->Prop}{h:Nat->Option (W G.T)}{H:List Nat}{w:World}
def Ren.left{a b:List<|Nat×Option Nat}{c d:List Nat}{e f:List<|Nat×Nat}(r:Ren ν ν' S S' h H (a++b) (c++d)<|e++f):Ren ν ν' S S' h H a c e:=⟨λp hp=>r.own p (by simp[hp]),r.keep,λn k=>r.frz n (by simp[k]),r.sub,λp hp=>r.shr p (by simp[hp])⟩
def Ren.right{a b:List<|Nat×Option Nat}{c d:List Nat}{e f:List<|Nat×Nat}(r:Ren ν ν' S S' h H (a++b) (c++d)<|e++f):Ren ν ν' S S' h H b d f:=⟨λp hp=>r.own p (by simp[hp]),r.keep,λn k=>r.frz n (by simp[k]),r.sub,λp hp=>r.shr p (by simp[hp])⟩
def Ren.rptr{sh:List<|Nat×Nat}(r:Ren ν ν' S S' h H nm fz sh){p:Nat×Nat}(hp:p.1∈H)(k:RPtr ν p v):RPtr ν' p v:=by obtain⟨b,h1,u⟩:=k;exact⟨b,by rw[r.keep _ hp];exact h1,u⟩
def Ren.rptrs{sh:List<|Nat×Nat}(r:Ren ν ν' S S' h H nm fz sh){p:List<|Nat×Nat}(hp:VJ H (Ss p)=N){vs:List Value}(u:F2 (RPtr ν) p vs):F2 (RPtr ν') p vs:=⟨u.1,λi x y k D=>r.rptr (Aa8 hp _<|Ajf<|p_ k)<|u.2 i x y k D⟩
def RowsOK(G:Sig)(ν':Nat->Option Value)(S':Nat->Prop)(w:World)(h:Nat->Option (W G.T))(nm:List<|Nat×Option Nat)(bl:List<|Nat×W G.T):Prop:=(∀p∈bl,Rb G ν' S' w.heap p.1 p.2)/\BE bl=Eu nm/\∀p∈nm,∀n,p.2=A n->h n≠C
def He(a b:List<|Nat×W G.T):BE (a++b)=BE a++BE b:=by induction a with|nil=>rfl|cons x t k=>simp[BE,k]
def TD(a b:List<|Nat×Option Nat):Eu (a++b)=Eu a++Eu b:=by induction a with|nil=>rfl|cons x t k=>simp[Eu,k]
def RowsOK.append{k:List<|Nat×Option Nat}{bl u:List<|Nat×W G.T}(r:RowsOK G ν' S' w h nm bl)(y:RowsOK G ν' S' w h k u):RowsOK G ν' S' w h (nm++k)<|bl++u:=⟨λp hp=>(m_.1 hp).elim (r.1 p)<|y.1 p,by rw[He,TD,r.2.1,y.2.1],λp hp=>(m_.1 hp).elim (r.2.2 p)<|y.2.2 p⟩
def RowsOK.nil:RowsOK G ν' S' w h [] []:=⟨σ,rfl,σ⟩
def CSh.take_sound(hr:HRel G ν S B h w){t:Tk<|s.T G}(y:s.take h c=A t)(hf:s.fix H=N)(rn:Ren ν ν' S S' h H t.nm t.fz t.sh)(Q:Rc G ν S w.heap c v):
  Rc G ν' S' w.heap (s.give t.x) v/\RowsOK G ν' S' w h t.nm (s.blk t.x):=by
 have rd:∀{c:Cv G.T}{v:Value},Rd G S w.heap c v->Rd G S' w.heap c v:=λr=>r.mono rn.sub λ_ _=>rfl;cases s with
 |int k=>
  cases c with
  |sc u=>
   cases u with
   |int k' n=>
    simp only[U]at y;cases D:ER k k' with
    |false=>rw[D]at y;simp at y
    |true=>rw[D]at y;simp[tk0]at y;subst y;rw[Ho D];exact⟨rd Q,.nil⟩
   |_=>simp[U]at y
  |_=>simp[U]at y
 |bool=>
  cases c with
  |sc u=>cases u<;>simp[U,tk0]at y;subst y;exact⟨rd Q,.nil⟩
  |_=>simp[U]at y
 |str=>
  cases c with
  |sc u=>cases u<;>simp[U,tk0]at y;subst y;exact⟨rd Q,.nil⟩
  |_=>simp[U]at y
 |flt k=>
  cases c with
  |sc u=>
   cases u with
   |float k' n=>
    simp only[U]at y;cases D:OZ k k' with
    |false=>rw[D]at y;simp at y
    |true=>rw[D]at y;simp[tk0]at y;subst y;rw[Ag4 D];exact⟨rd Q,.nil⟩
   |_=>simp[U]at y
  |_=>simp[U]at y
 |own m t'=>
  cases c with
  |own n=>
   simp only[U]at y;split at y
   .rename_i l hl;simp at y;subst y;have hn:=XD hl;have ho:=rn.own (m,A n) σ;simp only at ho;obtain⟨av,len,R,h1,h2⟩:=Q;refine⟨⟨av,len,R,ho.trans h1,h2⟩,λp hp=>?_,rfl,λp hp n' h6=>?_⟩
    .simp[CSh.blk]at hp;subst hp;rcases hr.blk n _ hn with⟨g1,g2⟩|⟨b,h8,cs,te,g1,g2,g3,g4,g5,g6⟩
     .exact .inl ⟨ho.trans g1,g2⟩
     .refine .inr ⟨b,h8,cs,te,ho.trans g1,g2,g3,g4,λi j x cv hx h9=>?_,g6⟩;obtain⟨u,hu,ha⟩:=g5 i j x cv hx h9;exact⟨u,hu,rd ha⟩
    .simp at hp;subst hp;simp at h6;subst h6;rw[hn];simp
   .simp at y
  |sc u=>
   simp only[U]at y;cases D:Ro u with
   |false=>rw[D]at y;simp at y
   |true=>
    rw[D]at y;simp at y;subst y;have hu:=YY D;subst hu;have ho:=rn.own (m,C) σ;simp only at ho;have hv:v=.slice C 0 0:=by have Q:Rd G S w.heap (.sc<|.slice C 0 0) v:=Q;cases Q;rfl
    subst hv;refine⟨⟨C,0,0,ho,rfl⟩,λp hp=>?_,rfl,λp hp n' h6=>?_⟩
    .simp[CSh.blk]at hp;subst hp;exact .inl ⟨ho,rfl⟩
    .simp at hp;subst hp;simp at h6
  |_=>simp[U]at y
 |sh m=>
  cases c with
  |own n=>simp only[U]at y;simp at y;subst y;obtain⟨av,len,R,h1,h2⟩:=Q;exact⟨⟨av,len,R,(rn.shr (m,n) σ).trans h1,h2⟩,.nil⟩
  |_=>simp[U]at y
 |ro t'=>
  cases c with
  |ro hg l=>
   simp only[U]at y;split at y
   .rename_i l' hl;obtain⟨rfl,rfl⟩:=WA hl;simp[tk0]at y;subst y;exact⟨rd Q,.nil⟩
   .simp at y
  |own n=>
   simp only[U]at y;split at y
   .rename_i l hl;simp at y;subst y;have hn:=XD hl;refine⟨?_,.nil⟩;obtain⟨av,len,R,hb,rfl⟩:=Q;rcases hr.blk n _ hn with⟨h1,h2⟩|⟨b,h8,c,te,h1,h2,h3,h4,h5⟩
    .rw[hb]at h1;simp at h1;obtain⟨rfl,rfl,rfl⟩:=h1;simp only[CSh.give];rw[h2];exact .nil _ _ _
    .rw[hb]at h1;simp at h1;obtain⟨rfl,rfl,rfl⟩:=h1;have he:S' b:=rn.frz n σ (by rw[hn];simp) _ b hb rfl;show Rd G S' w.heap (.ro t' l) _;refine .ro t' l b 0 R c te (0,0) (λi j=>c.getD (i*G.sz t'+j) undef) he h2 (.inl h5.2.1) h3 (λi j hi hj=>?_) (λi j x cv hx h9=>?_)
     .have hm:(i+1)*G.sz t'<=R*G.sz t':=w_ _ ω;rw[a0_]at hm;have hd:i*G.sz t'+j<c.size:=ω;rw[n_];simp[hd]
     .obtain⟨v,hv,ha⟩:=h5.1 i j x cv hx h9
      have:c.getD (i*G.sz t'+j) undef=v:=by rw[v_,hv];rfl
      rw[this];exact rd ha
   .simp at y
  |sc u=>
   simp only[U]at y;cases D:Ro u with
   |false=>rw[D]at y;simp at y
   |true=>
    rw[D]at y;simp[tk0]at y;subst y;have hu:=YY D;subst hu;have hv:v=.slice C 0 0:=by have Q:Rd G S w.heap (.sc<|.slice C 0 0) v:=Q;cases Q;rfl
    subst hv;exact⟨Rd.nil _ _ _,.nil⟩
  |_=>simp[U]at y
 |rp t' off=>
  cases c with
  |rp hg x F=>
   simp only[U]at y;cases D:aD off F with
   |false=>rw[D]at y;simp at y
   |true=>
    rw[D,i_]at y;have e:=AQ.1 D;subst e;split at y
    .rename_i x' hx;obtain⟨rfl,rfl⟩:=Atg hx;simp[tk0]at y;subst y;exact⟨rd Q,.nil⟩
    .simp at y
  |_=>simp[U]at y
 |ptr n off=>
  cases c with
  |ptr n' F=>
   simp only[U]at y;cases D:(aD n n'&&aD off F)with
   |false=>rw[D]at y;simp at y
   |true=>rw[D,i_]at y;simp only[b_]at D;have e1:n=n':=AQ.1 D.1;have e2:off=F:=AQ.1 D.2;subst e1;subst e2;simp[tk0]at y;subst y;exact⟨rn.rptr ((Hp H n).1 hf) Q,.nil⟩
  |_=>simp[U]at y
 |nili=>
  cases c with
  |sc v'=>
   simp only[U]at y;cases D:Anu v' with
   |false=>rw[D]at y;simp at y
   |true=>
    rw[D,i_]at y;simp[tk0]at y;subst y;have h0:Rd G _ _ (.sc v') _:=Q;cases h0;refine⟨?_,.nil⟩;unfold Anu at D;split at D
    .exact Rd.sc _ rfl
    .simp at D
  |_=>simp[U]at y
 |nilp=>
  cases c with
  |sc v'=>
   simp only[U]at y;cases D:Anv v' with
   |false=>rw[D]at y;simp at y
   |true=>
    rw[D,i_]at y;simp[tk0]at y;subst y;have h0:Rd G _ _ (.sc v') _:=Q;cases h0;refine⟨?_,.nil⟩;unfold Anv at D;split at D
    .exact Rd.sc _ rfl
    .simp at D
  |_=>simp[U]at y
 |lit k n=>
  cases c with
  |sc v'=>
   simp only[U]at y;cases D:Auf k n v' with
   |false=>rw[D]at y;simp at y
   |true=>
    rw[D,i_]at y;simp[tk0]at y;subst y;have h0:Rd G _ _ (.sc v') _:=Q;cases h0;refine⟨?_,.nil⟩;unfold Auf at D;split at D
    .rename_i k' m _;simp only[b_,r_]at D;have e:k=k':=by have h:=D.1;cases k<;>cases k'<;>first|rfl|(simp[ER]at h)
     rw[e,D.2];exact Rd.sc _ rfl
    .simp at D
  |_=>simp[U]at y
 |np n tt=>
  cases c with
  |np n' t'=>
   simp only[U]at y;cases D:(aD n n'&&aD tt t')with
   |false=>rw[D]at y;simp at y
   |true=>rw[D,i_]at y;simp only[b_]at D;have e1:n=n':=AQ.1 D.1;have e2:tt=t':=AQ.1 D.2;subst e1;subst e2;simp[tk0]at y;subst y;exact⟨Q.imp (λh=>h)<|rn.rptr<|(Hp H n).1 hf,.nil⟩
  |_=>simp[U]at y
 |sa n off len=>
  cases c with
  |sa n' F h7=>
   simp only[U]at y;cases D:(aD n n'&&(aD off F&&aD len h7))with
   |false=>rw[D]at y;simp at y
   |true=>rw[D,i_]at y;simp only[b_]at D;have e1:n=n':=AQ.1 D.1;have e2:off=F:=AQ.1 D.2.1;have e3:len=h7:=AQ.1 D.2.2;subst e1;subst e2;subst e3;simp[tk0]at y;subst y;obtain⟨b,h1,h2⟩:=Q;obtain⟨b',g1,g2⟩:=rn.rptr ((Hp H n).1 hf) (p:=(n,0)) ⟨b,h1,rfl⟩;cases g2;exact⟨⟨b,g1,h2⟩,.nil⟩
  |_=>simp[U]at y
 |clo f p q=>
  cases c with
  |clo f' p' q'=>
   simp only[U]at y;cases D:(aD f f'&&WN p p'&&WN q q')with
   |false=>rw[D]at y;simp at y
   |true=>rw[D,i_]at y;simp only[b_]at D;have e1:f=f':=AQ.1 D.1.1;have e2:=Ag5 D.1.2;have e3:=Ag5 D.2;subst e1;subst e2;subst e3;simp[tk0]at y;subst y;simp only[CSh.fix,b_]at hf;obtain⟨vp,vq,h1,h2,h3⟩:=Q;exact⟨⟨vp,vq,h1,rn.rptrs hf.1 h2,rn.rptrs hf.2 h3⟩,.nil⟩
  |_=>simp[U]at y
def VB(hr:HRel G ν S B h w):∀(s:List CSh) (cs:List<|Cv G.T) (t:Tk<|TL G s),IB h s cs=A t->s.all (CSh.fix H)=N->Ren ν ν' S S' h H t.nm t.fz t.sh->∀vs:List Value,F2 (Rc G ν S w.heap) cs vs->
  F2 (Rc G ν' S' w.heap) (DB s t.x) vs/\RowsOK G ν' S' w h t.nm (Ab6 s t.x)
 |[],[],t,k,_,_,vs,r=>by simp[IB,tk0]at k;subst k;exact⟨by rw[r.inv_nil];exact .nil,.nil⟩
 |[],_::_,_,k,_,_,_,_=>by simp[IB]at k
 |_::_,[],_,k,_,_,_,_=>by simp[IB]at k
 |s::ss,c::cs,t,k,u,D,vs,r=>by
  simp only[IB]at k;split at k
  .rename_i a b Q hb;simp at k;subst k;simp only[T_,b_]at u;obtain⟨v,p,rfl,R,y⟩:=r.inv;have h1:=CSh.take_sound hr Q u.1 D.left R;have F:=VB hr ss cs b hb u.2 D.right p y;exact⟨F.1.cons h1.1,h1.2.append F.2⟩
  .simp at k
def PSh.take_sound(hr:HRel G ν S B h w){s:PSh}{c:Pv G.T}{t:Tk<|s.T G}(p:s.take h c=A t)(y:s.fix H=N)(u:Ren ν ν' S S' h H t.nm t.fz t.sh)(k:Rp G ν S w.heap c v):
  Rp G ν' S' w.heap (s.give t.x) v/\RowsOK G ν' S' w h t.nm (s.blk t.x):=by
 cases s with
 |one s=>
  cases k with
  |one c v k=>obtain⟨x,nm,fz,sh⟩:=t;have h1:=CSh.take_sound (ν':=ν') (S':=S') (H:=H) hr (s:=s) (t:=⟨x,nm,fz,sh⟩) p y u k;exact⟨Rp.one (s.give x) v h1.1,h1.2⟩
  |agg cs vs k=>exact absurd (show(C:Option<|Tk<|s.T G)=A t from p) σ
 |agg r=>
  cases k with
  |one c v k=>exact absurd (show(C:Option<|Tk<|TL G r)=A t from p) σ
  |agg cs vs k=>obtain⟨x,nm,fz,sh⟩:=t;have h1:=VB (ν':=ν') (S':=S') (H:=H) hr r cs ⟨x,nm,fz,sh⟩ p y u vs k;exact⟨Rp.agg (DB r x) vs h1.1,h1.2⟩
def TU(hr:HRel G ν S B h w){tm:List<|Nat×Sv G.T}{f:Nat->Value}(hs:∀k s,Y tm k=A s->Rs G ν S w.heap s (f k)):∀(s:List<|Nat×PSh) (t:Tk<|TmT G s),Ir h tm s=A t->s.all (λp=>p.2.fix H)=N->
  Ren ν ν' S S' h H t.nm t.fz t.sh->(∀k v,Y (Li s t.x) k=A v->Rs G ν' S' w.heap v (f k))/\RowsOK G ν' S' w h t.nm (NG s t.x)
 |[],t,r,_,_=>by simp[Ir,tk0]at r;subst r;exact⟨λk v h=>by simp[Li,Y]at h,.nil⟩
 |p::ss,t,r,F,R=>by
  simp only[Ir]at r;split at r
  .rename_i c hc;split at r
   .rename_i a b ha hb;simp at r;subst r;simp only[T_,b_]at F;have y:=hs p.1 _ hc;generalize Q:f p.1=v0 at y;cases y with
    |p _ _ D=>
    obtain⟨g1,g2⟩:=PSh.take_sound hr ha F.1 R.left D;obtain⟨g3,g4⟩:=TU hr hs ss b hb F.2 R.right;refine⟨λk v u=>?_,g2.append g4⟩;simp only[Li,Y,Bs]at u;by_cases e:p.1=k
    .rw[if_pos e]at u;simp at u;subst u;rw[<-e,Q];exact .p _ _ g1
    .rw[if_neg e]at u;exact g3 k v u
   .simp at r
  .simp at r
def Bc2{h:Nat->Option (W G.T)}{a:Tk<|s.T G}(k:s.take h c=A a){m t:Nat}(r:s.give a.x=.np m t):c=.np m t:=by
 cases s with
 |np n u=>
  have e:(CSh.np n u).give a.x=(.np n u:Cv G.T):=rfl;rw[e]at r;cases r;cases c with
  |np y D=>
   simp only[U]at k;cases p:(aD m y&&aD t D)with
   |false=>rw[p]at k;simp at k
   |true=>simp only[b_]at p;rw[<-AQ.1 p.1,<-AQ.1 p.2]
  |_=>simp[U]at k
 |_=>cases r
def Apb(h:Nat->Option (W G.T)):∀(s:List CSh) (cs:List<|Cv G.T) (a:Tk<|TL G s),IB h s cs=A a->∀{m t:Nat},Cv.np m t∈DB s a.x->Cv.np m t∈cs
 |[],[],a,_,m,t,p=>by simp[DB]at p
 |[],_::_,a,k,_,_,_=>by simp[IB]at k
 |_::_,[],a,k,_,_,_=>by simp[IB]at k
 |s::u,c::cs,a,k,m,t,p=>by
  simp only[IB]at k;split at k
  .rename_i x y r D;cases k;simp only[DB,A_]at p;rcases p with p|p
   .rw[Bc2 r p.symm];simp
   .exact F_ _<|Apb h u cs y D p
  .simp at k
def TT(hr:HRel G ν S B h w):∀(s:List<|Nat×List CSh) (t:Tk<|HpT G s),Km h s=A t->(∀n∈AH s,n∈H)->s.all (λp=>p.2.all<|CSh.fix H)=N->
  Ren ν ν' S S' h H t.nm t.fz t.sh->(∀p∈Il s t.x,Rb G ν' S' w.heap p.1 p.2)/\BE (Il s t.x)=AH s/\(∀n∈AH s,∃cs,h n=A (.cells cs))/\RowsOK G ν' S' w h t.nm (Se s t.x)
 |[],t,k,_,_,_=>by simp[Km,tk0]at k;subst k;exact⟨by simp[Il],rfl,by simp[AH],.nil⟩
 |p::ss,t,k,D,u,y=>by
  simp only[Km]at k;split at k
  .rename_i cs Q;split at k
   .rename_i a b F hb;simp at k;subst k;simp only[T_,b_]at u;obtain⟨bb,c,te,q1,q2,R,q4⟩:=hr.blk p.1 _ Q;obtain⟨g1,g2⟩:=VB hr p.2 cs a F u.1 y.left c.toList R;obtain⟨g3,g5,g6,g4⟩:=TT hr ss b hb (λn r=>D n (by simp[AH,r])) u.2 y.right;refine⟨λq hq=>?_,by simp only[Il,BE,AH,g5],λn r=>?_,g2.append g4⟩
    .simp only[Il,A_]at hq;rcases hq with rfl|hq
     .exact⟨bb,c,te,by rw[y.keep _<|D _ (by simp[AH])];exact q1,q2,g1,λm t hm=>q4 m t<|Apb h p.2 cs a F hm⟩
     .exact g3 q hq
    .simp only[AH,A_]at r;rcases r with rfl|r
     .exact⟨cs,Q⟩
     .exact g6 n r
   .simp at k
  .simp at k
end
end Go.Ab
namespace Go.Ab
variable{G:Sig}
variable{ρ:List (Nat×Option Nat)}{m:M (Ex×St G)}{j:Option (List (Ex×Spec))}{E:List (Ex×Spec)}{st st':St G}{e:Ex}{n:Nat}
def Ju:∀{l:List Nat},Io l=N->l.Nodup
 |[],_=>by simp
 |n::t,h=>by simp only[Io,b_,b4_]at h;refine List.nodup_cons.2 ⟨λk=>?_,Ju h.2⟩;rw[(Hp t n).2 k]at h;simp at h
def WH:∀{a b:List Nat},WG a b=N->∀n∈a,n∉b
 |[],_,_,n,h=>by simp at h
 |m::t,b,h,n,k=>by
  simp only[WG,b_,b4_]at h;rcases A_.1 k with rfl|k
  .intro p;rw[(Hp b n).2 p]at h;simp at h
  .exact WH h.2 n k
def Wt:∀{a:List Nat},Ws a=N->∀n∈a,n<lo
 |[],_,n,h=>by simp at h
 |m::t,h,n,k=>by
  simp only[Ws,b_]at h;rcases A_.1 k with rfl|k
  .have:=h.1;simp[aF]at this;omega
  .exact Wt h.2 n k
def Adv{us:List Nat}:∀{a:List Nat},Adu us a=N->∀n∈a,lo<=n->n∈us
 |[],_,n,h,_=>by simp at h
 |m::t,h,n,k,p=>by
  simp only[Adu,b_,O_]at h;rcases A_.1 k with rfl|k
  .rcases h.1 with h1|h1
   .simp[aF]at h1;omega
   .exact(Hp us n).1 h1
  .exact Adv h.2 n k p
def Rr{p:Nat×Option Nat}(h:p∈ρ):p.1∈Eu ρ:=by
 induction ρ with
 |nil=>simp at h
 |cons q t k=>
  rcases A_.1 h with rfl|h
  .simp[Eu]
  .simp[Eu,k h]
def Jn{m:Nat}(h:(m,A n)∈ρ):n∈EI ρ:=by
 induction ρ with
 |nil=>simp at h
 |cons q t p=>
  obtain⟨k,o⟩:=q;rcases A_.1 h with h1|h1
  .simp at h1;obtain⟨rfl,rfl⟩:=h1;simp[EI]
  .have:=p h1
   cases o<;>simp[EI,this]
def Ai9(h:n∈Eu ρ):∃o,(n,o)∈ρ:=by
 induction ρ with
 |nil=>simp[Eu]at h
 |cons q t p=>
  simp only[Eu,A_]at h;rcases h with rfl|h
  .exact⟨q.2,σ⟩
  .obtain⟨o,k⟩:=p h;exact⟨o,by simp[k]⟩
def Kf{α:Type}{l:List<|Nat×α}{x:α}(h:Y l n=A x):(n,x)∈l:=by
 induction l with
 |nil=>simp[Y]at h
 |cons q t p=>
  obtain⟨k,v⟩:=q;simp only[Y,Bs]at h;by_cases e:k=n
  .subst e;simp at h;subst h;simp
  .rw[if_neg e]at h;simp[p h]
def Arz(p:(Eu ρ).Nodup){o:Option Nat}(h:(n,o)∈ρ):Y ρ n=A o:=by
 induction ρ with
 |nil=>simp at h
 |cons q t r=>
  obtain⟨k,v⟩:=q;simp only[Eu,List.nodup_cons]at p;simp only[Y,Bs];rcases A_.1 h with h|h
  .simp at h;obtain⟨rfl,rfl⟩:=h;simp
  .have:k≠n:=λe=>p.1 (by rw[e];exact Rr h)
   rw[if_neg this];exact r p.2 h
def Aof(u:(EI ρ).Nodup){m y:Nat}(h:(m,A n)∈ρ)(h':(y,A n)∈ρ):m=y:=by
 induction ρ with
 |nil=>simp at h
 |cons q t F=>
  obtain⟨k,v⟩:=q;have p:(EI t).Nodup/\(∀j,v=A j->j∉EI t):=by
   cases v with
   |none=>exact⟨u,σ⟩
   |some j=>simp only[EI,List.nodup_cons]at u;exact⟨u.2,λi D=>by simp at D;subst D;exact u.1⟩
  rcases A_.1 h with h1|h1<;>rcases A_.1 h' with r|r
  .simp at h1 r;rw[h1.1,r.1]
  .simp at h1;obtain⟨rfl,rfl⟩:=h1;exact absurd (Jn r)<|p.2 n rfl
  .simp at r;obtain⟨rfl,rfl⟩:=r;exact absurd (Jn h1)<|p.2 n rfl
  .exact F p.1 h1 r
def UE{l:List<|Nat×W G.T}{p:Nat×W G.T}(h:p∈l):p.1∈BE l:=by
 induction l with
 |nil=>simp at h
 |cons q t k=>
  rcases A_.1 h with rfl|h
  .simp[BE]
  .simp[BE,k h]
def Spec.take_rel{cx:Cx}{s:Spec}{x:s.T G}(ht:s.take st=A x){a:Act}{w:World}(hi:Rel G cx st a w)(hs:∀n y,cx.nu0 n=A y->lo<=n):Rel G cx (s.mk' x) a w:=by
 obtain⟨ν,S,r⟩:=hi;unfold Spec.take at ht;split at ht
 .rename_i F tb hw hj;generalize hc:(s.tm.all (λp=>p.2.fix<|AH s.hp)&&s.hp.all (λp=>p.2.all<|CSh.fix<|AH s.hp)&&
   (Io (Eu (F.nm++tb.nm)++AH s.hp)&&Ws (Eu<|F.nm++tb.nm)&&Io (EI (F.nm++tb.nm)++AH s.hp)&&WG (EI (F.nm++tb.nm)++AH s.hp) (F.fz++tb.fz)&&(Adi (F.nm++tb.nm) (F.sh++tb.sh)&&Adu s.us st.us)))=c at ht
  cases c with
  |false=>simp at ht
  |true=>
   have ht:(F.x,tb.x)=x:=s_ ht;subst ht;simp only[b_]at hc;obtain⟨⟨c1,c2⟩,⟨⟨⟨c3,c4⟩,c5⟩,c6⟩,c8,c7⟩:=hc;generalize he:F.nm++tb.nm=ρ at c3 c4 c5 c6 c8;generalize hv:F.sh++tb.sh=sh at c8;generalize hl:F.fz++tb.fz=fz at c6;have d3:=List.nodup_append.1<|Ju c3;have d5:=List.nodup_append.1<|Ju c5;have d4:=Wt c4;have d6:=WH c6;have d7:=Adv c7
   let ν':Nat->Option Value:=λn=>match Y ρ n with
    |some (A m)=>ν m
    |some C=>A<|.slice C 0 0
    |none=>if n∈AH s.hp\/lo<=n then ν n else C
   let S':Nat->Prop:=λb=>S b\/∃n∈fz,Y st.hp n≠C/\∃y,ν n=A y/\AX y=A b
   have ha:∀p∈ρ,ν' p.1=match p.2 with|some n=>ν n|none=>A<|.slice C 0 0:=by intro p hp;simp only[ν',Arz d3.1 hp];cases p.2<;>rfl
   have hf:∀n,n∉Eu ρ->Y ρ n=C:=by
    intro n Q;cases hg:Y ρ n with
    |none=>rfl
    |some o=>exact absurd (Rr<|Kf hg) Q
   have h7:∀n∈AH s.hp,ν' n=ν n:=by
    intro n Q
    have:Y ρ n=C:=hf n λu=>d3.2.2 n u n Q rfl
    simp only[ν',this];rw[if_pos<|.inl Q]
   have rn:Ren ν ν' S S' (Y st.hp) (AH s.hp) ρ fz sh:=⟨ha,h7,λn Q hh y b hy D=>.inr ⟨n,Q,hh,y,hy,D⟩,λb D=>.inl D,λp hp=>ha _<|ZE c8 p hp⟩
   rw[<-he,<-hl,<-hv]at rn;obtain⟨g1,g2⟩:=TU r.heap r.slot s.tm F hw c1 rn.left;obtain⟨g3,g4,g5,g6⟩:=TT r.heap s.hp tb hj (λ_ h=>h) c2 rn.right;have hd:BE (NG s.tm F.x++(Se s.hp tb.x++Il s.hp tb.x))=Eu ρ++AH s.hp:=by rw[He,He,g2.2.1,g6.2.1,g4,<-he,TD,N_]
   have h8:∀n y b,Y (NG s.tm F.x++(Se s.hp tb.x++Il s.hp tb.x)) n≠C->ν' n=A y->AX y=A b->
     ∃m,ν m=A y/\Y st.hp m≠C/\((n,A m)∈ρ\/(n∈AH s.hp/\m=n)):=by
    intro n y b Q hy D;obtain⟨k,hk⟩:=Option.ne_none_iff_exists'.1 Q;have u:=UE<|Kf hk;rw[hd]at u;rcases m_.1 u with u|u
    .obtain⟨o,ho⟩:=Ai9 u;have h1:=ha _ ho;simp only at h1;cases o with
     |none=>rw[hy]at h1;simp at h1;subst h1;simp[AX]at D
     |some m=>
      refine⟨m,by rw[<-hy,h1],?_,.inl ho⟩;rw[<-he]at ho;rcases m_.1 ho with ho|ho
      .exact g2.2.2 _ ho m rfl
      .exact g6.2.2 _ ho m rfl
    .refine⟨n,by rw[<-h7 n u];exact hy,?_,.inr ⟨u,rfl⟩⟩;obtain⟨cs,hu⟩:=g5 n u;rw[hu];simp
   refine⟨ν',S',⟨g1,⟨λn k hk=>?_,λn m y z b h1 h2 h3 h4 h5 h6=>?_,λn y b h1 h2 h3=>?_,λb D=>?_,r.heap.gl.mono (λ_ h=>.inl h) λ_ _=>rfl⟩,λn Q=>?_,r.defers,r.nt,r.size,r.frame,r.env,λb D=>?_,λb D=>.inl<|r.keep b D,λn y hy=>?_⟩⟩
   .have u:=Kf hk;rcases m_.1 u with u|u
    .exact g2.1 _ u
    .rcases m_.1 u with u|u
     .exact g6.1 _ u
     .exact g3 _ u
   .obtain⟨n1,q1,q2,R⟩:=h8 n y b h1 h3 h5;obtain⟨n2,p1,p2,p3⟩:=h8 m z b h2 h4 h6;have e:=r.heap.apart n1 n2 y z b q2 p2 q1 p1 h5 h6;subst e;rcases R with R|⟨R,q4⟩<;>rcases p3 with p3|⟨p3,p4⟩
    .exact Aof d5.1 R p3
    .exact absurd rfl<|d5.2.2 n1 (Jn R) n1 (by rw[p4];exact p3)
    .exact absurd rfl<|d5.2.2 n1 (Jn p3) n1 (by rw[q4];exact R)
    .exact q4.symm.trans p4
   .obtain⟨n1,q1,q2,R⟩:=h8 n y b h1 h2 h3;obtain⟨o1,o2⟩:=r.heap.own n1 y b q2 q1 h3;refine⟨?_,o2⟩;rintro(hS|⟨m,u,h9,z,hz,h0⟩)
    .exact o1 hS
    .have e:=r.heap.apart n1 m y z b q2 h9 q1 hz h3 h0;subst e;refine d6 n1 (m_.2 ?_) u;rcases R with R|⟨R,q4⟩
     .exact .inl<|Jn R
     .exact .inr (by rw[q4];exact R)
   .rcases D with D|⟨m,u,h9,z,hz,h0⟩
    .exact r.heap.stay b D
    .exact r.heap.lt h9 hz h0
   .show n∈BE _++s.us;rw[hd];cases hg:Y ρ n with
    |some o=>simp[Rr<|Kf hg]
    |none=>
     simp only[ν',hg]at Q;by_cases hc:n∈AH s.hp\/lo<=n
     .rw[if_pos hc]at Q;rcases hc with hc|hc
      .simp[hc]
      .have:=d7 n (r.used n Q) hc
       simp[this]
     .rw[if_neg hc]at Q;simp at Q
   .rcases D with D|⟨m,u,h9,z,hz,h0⟩
    .exact r.sub b D
    .exact .inr (r.heap.own m z b h9 hz h0).2
   .have h1:=r.names n y hy;have h2:=hs n y hy
    have:Y ρ n=C:=hf n λu=>by have:=d4 n u;omega
    simp only[ν',this];rw[if_pos<|.inr h2];exact h1
 .simp at ht
def Arj{k:Ex}(h:YO e k=N):e=k:=by cases e<;>cases k<;>simp[YO]at h<;>first|rfl|(rw[h])
def Aj1{p:Ex×Spec}{y:p.2.T G}(h:IA [p] e st=A y):e=p.1/\p.2.take st=A y:=by
 have h:(bif YO e p.1 then p.2.take st else C)=A y:=h;generalize k:YO e p.1=b at h;cases b with
 |false=>simp at h
 |true=>exact⟨Arj k,h⟩
def Aj2{p q:Ex×Spec}{t:List<|Ex×Spec}{y:Sum (p.2.T G)<|Fp G<|q::t}(h:IA (p::q::t) e st=A y):
  (∃x,y=.inl x/\e=p.1/\p.2.take st=A x)\/∃z,y=.inr z/\IA (q::t) e st=A z:=by
 have h:(match bif YO e p.1 then p.2.take st else C with
  |some x=>A<|Sum.inl x
  |none=>match IA (q::t) e st with|some y=>A (.inr y)|none=>C)=A y:=h
 split at h
 .rename_i x k;generalize u:YO e p.1=b at k;cases b with
  |false=>cases k
  |true=>exact .inl ⟨x,(s_ h).symm,Arj u,k⟩
 .split at h
  .rename_i z r;exact .inr ⟨z,(s_ h).symm,r⟩
  .cases h
def UT{cx:Cx}(u:∀n y,cx.nu0 n=A y->lo<=n){R:Type}:∀(E:List<|Ex×Spec) {e:Ex}{st:St G}{y:Fp G E},IA E e st=A y->∀{a:Act}{w:World},Rel G cx st a w->∀(k:Ex×St G->Option R) (o:R),Hm E y k=A o->
  ∃st',k (e,st')=A o/\Rel G cx st' a w
 |[],_,_,y,_,_,_,_,_,_,_=>y.elim
 |[p],e,st,y,h,a,w,r,k,o,D=>by obtain⟨rfl,F⟩:=Aj1 h;exact⟨_,D,Spec.take_rel F r u⟩
 |p::q::t,e,st,y,h,a,w,r,k,o,D=>by
  rcases Aj2 h with⟨x,rfl,rfl,Q⟩|⟨z,rfl,F⟩
  .exact⟨_,D,Spec.take_rel Q r u⟩
  .exact UT u (q::t) F r k o D
def Adj:∀(E:List<|Ex×Spec) (y:Fp G E) (r:Ex) (st:St G),IA E r st=A y->∀o,Hm E y A=A o->o.1=r
 |[],y,_,_,_,_,_=>y.elim
 |[p],y,r,st,h,o,k=>by obtain⟨rfl,_⟩:=Aj1 h;have k:A (p.1,p.2.mk' y)=A o:=k;rw[<-s_ k]
 |p::q::t,y,r,st,h,o,k=>by
  rcases Aj2 h with⟨x,rfl,rfl,D⟩|⟨z,rfl,u⟩
  .have k:A (p.1,p.2.mk' x)=A o:=k;rw[<-s_ k]
  .exact Adj (q::t) z r st u o k
def Aw7(hm:Law m)(h:Amy E m _ A=A (e,st')):
  ∃st,m _ A=A (e,st)/\∀{cx:Cx}(_:∀n y,cx.nu0 n=A y->lo<=n) {a:Act}{w:World},Rel G cx st a w->Rel G cx st' a w:=by
 unfold Amy at h;have R:=hm (Fp G E) λp=>IA E p.1 p.2;rw[R]at h;cases F:m _ A with
 |none=>rw[F]at h;simp at h
 |some p=>
  rw[F]at h;simp only[Option.bind]at h;cases k:IA E p.1 p.2 with
  |none=>rw[k]at h;simp at h
  |some y=>rw[k]at h;simp only at h;have D:=Adj E y p.1 p.2 k _ h;simp at D;subst D;refine⟨p.2,rfl,λ{cx} u {a w} r=>?_⟩;obtain⟨Q,h1,h2⟩:=UT u E k r A _ h;simp at h1;subst h1;exact h2
def Oh{R:Type}:∀(E:List<|Ex×Spec) (y:Fp G E) (k:Ex×St G->Option R),Hm E y k=(Hm E y A).bind k
 |[],y,_=>y.elim
 |[p],y,k=>rfl
 |p::q::t,y,k=>by
  cases y with
  |inl x=>rfl
  |inr y=>exact Oh (q::t) y k
def Bbl:Law<|Amy E m:=by
 intro R k;unfold Amy;cases m _ (λp=>IA E p.1 p.2)with
 |none=>rfl
 |some y=>exact Oh E y k
def Ob(k:Law m):Law<|Agx j m:=by
 cases j with
 |none=>exact k
 |some E=>exact Bbl
def Mh(k:Law m)(h:Agx j m _ A=A (e,st')):
  ∃st,m _ A=A (e,st)/\∀{cx:Cx}(_:∀n y,cx.nu0 n=A y->lo<=n) {a:Act}{w:World},Rel G cx st a w->Rel G cx st' a w:=by
 cases j with
 |none=>exact⟨st',h,λ{_} _ {_ _} r=>r⟩
 |some E=>exact Aw7 k h
end Go.Ab
namespace Go.Ab
variable{G:Sig}
variable{ν:Nat->Option Value}{f:St G->M (Ex×St G)}{S:Nat->Prop}{st:St G}{w:World}{e:Exit}{a:Act}{x:Pv G.T}{id:Nat}
def Bt:Code->List Code
 |.seq a b=>Bt a++Bt b
 |.cond _ a b=>Bt a++Bt b
 |.block _ a=>Bt a
 |.loop a=>a::Bt a
 |_=>[]
def SA:∀c:Code,GK c=(Bt c).length:=by
 intro c;induction c with
 |seq a b k p=>simp[GK,Bt,k,p]
 |cond x a b k p=>simp[GK,Bt,k,p]
 |block n a r=>simp[GK,Bt,r]
 |loop a r=>simp[GK,Bt,r]
 |_=>rfl
def ExR:Ex->Exit->Prop
 |.normal,.normal=>True
 |.exit i,.exit j=>i=j
 |.ret,.ret=>True
 |_,_=>False
def KO(h:ExR .normal e):e=.normal:=by cases e<;>first|rfl|exact h.elim
def WO{i:Nat}(h:ExR (.exit i) e):e=.exit i:=by cases e<;>first|exact h.elim|(have:i=_:=h;rw[this])
def SH(h:ExR .ret e):e=.ret:=by cases e<;>first|rfl|exact h.elim
structure LoopOK(P:Program)(G:Sig)(nt:Nat)(f:St G->M (Ex×St G))(c:Code):Prop where
 law:∀st,Law (f st)
 wp:∀st ex st',f st (Ex×St G) some=some (ex,st')->∀(cx:Cx) (a:Act) (w:World) (Q:Exit->Act->World->Prop),cx.nt=nt->(∀n y,cx.nu0 n=some y->lo<=n)->Rel G cx st a w->
  (∀e a' w',ExR ex e->Rel G cx st' a' w'->Q e a' w')->(Code.loop c).wp P Q a w
structure DrawOK(P:Program)(G:Sig)(nt:Nat)(f:Array Oper->St G->M (St G)):Prop where
 law:∀ops st,Law (f ops st)
 wp:∀ops st st',f ops st (St G) some=some st'->∀(cx:Cx) (a:Act) (w:World) (id:Nat) (Q:Exit->Act->World->Prop),cx.nt=nt->Rel G cx st a w->
  (∀a' w',Rel G cx st' a' w'->Q .normal a' w')->(Code.region id ops true).wp P Q a w
def Abj:∀(ks:List Nat) (l:List<|Nat×Sv G.T) (k:Nat) (s:Sv G.T),Y (Agy l ks) k=A s->Y l k=A s
 |[],_,_,_,h=>h
 |n::t,l,k,s,h=>by
  have:=Abj t (del l n) k s h
  rw[VS]at this;by_cases e:n=k
  .simp[e]at this
  .simpa[e]using this
def Rel.kill{cx:Cx}(h:Rel G cx st a w)(ks:List Nat):Rel G cx (st.kill ks) a w:=
 let⟨ν,S,r⟩:=h
 ⟨ν,S,⟨λk s p=>r.slot k s<|Abj ks _ k s p,r.heap,r.used,r.defers,r.nt,r.size,r.frame,r.env,r.sub,r.keep,r.names⟩⟩
section
variable{P:Program}(ok:SigOK P G)(eqok:EqOK P G){cf:Dc G}(cfok:CfOK P G cf){nt:Nat}{drawn:Array Oper->St G->M (St G)}(dok:DrawOK P G nt drawn)
 {lp:Nat->St G->M (Ex×St G)}{kl:Nat->List Nat}{jn:Nat->Option (List (Ex×Spec))}
theorem Any(tm:List<|Nat×Sv G.T)(c:Operand):Law<|WE tm c:=by
 cases c with
 |tmp t=>
  intro R k;show Aea tm t R k=(Aea tm t _ A).bind k;unfold Aea;split
  .rename_i b _;cases b<;>rfl
  .rfl
 |const v=>show Law (Ak8 v);cases v<;>first|exact Ai _|exact Ap
 |global g=>exact Ap
 |func f=>exact Ap
theorem Anz(k:∀st,Law<|f st)(st:St G):Law<|Aus jn id f st:=by
 refine Ad (Ob<|Ai _) λp=>?_;split
 .exact k _
 .exact Ap
theorem UI{st':St G}{D:Ex}(h:Aus jn id f st _ A=A (D,st')):
  ∃k,f k _ A=A (D,st')/\∀{cx:Cx}{a:Act}{w:World},(∀n y,cx.nu0 n=A y->lo<=n)->Rel G cx st a w->Rel G cx k a w:=by
 obtain⟨⟨R,k⟩,h1,F⟩:=(Ob<|Ai _).spec<|aC h;obtain⟨Q,h0,p⟩:=Mh (Ai _) h1;simp[J]at h0;obtain⟨rfl,rfl⟩:=h0;exact⟨k,F,λu r=>p u r⟩
include cfok dok in
theorem Fs:∀(c:Code) (n:Nat) (st:St G),(∀(k:Nat) r,(Bt c)[k]?=A r->LoopOK P G nt (lp<|n+k) r)->Law (CZ cf nt drawn lp kl jn n c st)
 |.skip,_,_,_=>Ai _
 |.ret,_,_,_=>Ai _
 |.exit _,_,_,_=>Ai _
 |.seq a b,n,st,y=>by
  unfold CZ;refine Ad (Ob (Fs a n st λk r u=>y k r ?_)) λp=>?_
  .simp only[Bt];rw[b2_ (e_.1 u).1];exact u
  .split
   .refine Fs b _ _ λk r u=>?_;rw[SA,V_];refine y _ r ?_;simp only[Bt];rw[b8_ ω,b0_];exact u
   .exact Ai _
 |.cond c a b,n,st,y=>by
  unfold CZ;refine Ad (Any _ _) λp=>?_;split
  .refine Fs a n _ λk r u=>y k r ?_;simp only[Bt];rw[b2_ (e_.1 u).1];exact u
  .refine Fs b _ _ λk r u=>?_;rw[SA,V_];refine y _ r ?_;simp only[Bt];rw[b8_ ω,b0_];exact u
 |.block id a,n,st,y=>by unfold CZ;refine Ad (Fs a n st y) λp=>?_;split<;>exact Ai _
 |.loop c,n,st,y=>(y 0 c rfl).law st
 |.region id ops false,_,st,_=>by unfold CZ;exact Anz (λst=>Ob (Ad (Sw (cx:=⟨default,λ_=>False,λ_=>False,λ_=>C,nt,[]⟩) cfok ops ops.toList st) λ_=>Ai _)) st
 |.region id ops N,_,st,_=>Anz (λst=>Ob (Ad (dok.law _ _) λ_=>Ai _)) st
 |.rangeFunc ..,_,_,_=>Ap
 |.scope _,_,_,_=>Ap
 |.label _,_,_,_=>Ap
 |.goto _,_,_,_=>Ap
 |.refuse _,_,_,_=>Ap
include ok eqok cfok dok in
theorem GR{cx:Cx}(F:cx.nt=nt)(u:∀n y,cx.nu0 n=A y->lo<=n):∀(c:Code) (n:Nat) (st st':St G) (ex:Ex) (a:Act) (w:World) (Q:Exit->Act->World->Prop),
  (∀(k:Nat) c',(Bt c)[k]?=A c'->LoopOK P G nt (lp<|n+k) c')->CZ cf nt drawn lp kl jn n c st (Ex×St G) A=A (ex,st')->Rel G cx st a w->
  (∀e a' w',ExR ex e->Rel G cx st' a' w'->Q e a' w')->c.wp P Q a w
 |.skip,_,st,st',ex,a,w,Q,_,h,r,D=>by simp[CZ,J]at h;obtain⟨rfl,rfl⟩:=h;exact wp_skip<|D _ _ _ trivial r
 |.ret,_,st,st',ex,a,w,Q,_,h,r,D=>by simp[CZ,J]at h;obtain⟨rfl,rfl⟩:=h;exact wp_ret<|D _ _ _ trivial r
 |.exit i,_,st,st',ex,a,w,Q,_,h,r,D=>by simp[CZ,J]at h;obtain⟨rfl,rfl⟩:=h;exact wp_exit<|D _ _ _ rfl r
 |.seq x y,n,st,st',ex,a,w,Q,hl,h,r,D=>by
  unfold CZ at h;have h7:∀(k:Nat) c',(Bt x)[k]?=A c'->LoopOK P G nt (lp<|n+k) c':=λk c' hk=>hl k c' (by simp only[Bt];rw[b2_ (e_.1 hk).1];exact hk);obtain⟨⟨e1,h3⟩,h1,p⟩:=(Ob<|Fs cfok dok x n st h7).spec<|aC h;obtain⟨h6,h0,R⟩:=Mh (Fs cfok dok x n st h7) h1;refine wp_seq (GR F u x n st h6 e1 a w _ h7 h0 r λe a' w' he ha=>?_);have r':=R u ha;cases e1 with
  |normal=>rw[KO he];refine GR F u y (n+GK x) h3 st' ex a' w' Q (λk c' hk=>?_) p r' D;rw[SA,V_];refine hl _ c' ?_;simp only[Bt];rw[b8_ ω,b0_];exact hk
  |exit i=>simp[J]at p;obtain⟨rfl,rfl⟩:=p;rw[WO he];exact D _ _ _ rfl r'
  |ret=>simp[J]at p;obtain⟨rfl,rfl⟩:=p;rw[SH he];exact D _ _ _ trivial r'
 |.cond c x y,n,st,st',ex,a,w,Q,hl,h,r,D=>by
  unfold CZ at h;obtain⟨⟨b,g⟩,hb,p⟩:=(Any st.tm c).spec<|aC h;have h8:a.eval c=.bool b/\Rel G cx (st.note g) a w:=by
   obtain⟨ν,S,r⟩:=r;cases c with
   |tmp t=>
    simp only[WE,Aea]at hb;split at hb
    .rename_i b0 hg
     have:(b0,A (t,b0))=(b,g):=by cases b0<;>simpa using hb
     simp at this;obtain⟨rfl,rfl⟩:=this;exact⟨Ajv r hg,ν,S,r.note hg⟩
    .simp at hb
   |const v=>
    cases v with
    |bool b0=>simp[WE,Ak8,J]at hb;obtain⟨rfl,rfl⟩:=hb;exact⟨rfl,ν,S,r⟩
    |_=>simp[WE,Ak8,I]at hb
   |global _=>simp[WE,I]at hb
   |func _=>simp[WE,I]at hb
  refine wp_cond h8.1 ?_;cases b with
  |true=>refine GR F u x n _ st' ex a w Q (λk c' hk=>hl k c' ?_) p h8.2 D;simp only[Bt];rw[b2_ (e_.1 hk).1];exact hk
  |false=>refine GR F u y (n+GK x) _ st' ex a w Q (λk c' hk=>?_) p h8.2 D;rw[SA,V_];refine hl _ c' ?_;simp only[Bt];rw[b8_ ω,b0_];exact hk
 |.block id x,n,st,st',ex,a,w,Q,hl,h,r,D=>by
  unfold CZ at h;obtain⟨⟨e1,h3⟩,h1,p⟩:=(Fs cfok dok x n st hl).spec<|aC h;refine wp_block (GR F u x n st h3 e1 a w _ hl h1 r λe a' w' he r'=>?_);cases e1 with
  |normal=>simp[J]at p;obtain⟨rfl,rfl⟩:=p;rw[KO he];exact D _ _ _ trivial r'
  |exit i=>
   simp only[J,Bs]at p;rw[WO he];by_cases hi:i=id
   .simp[hi]at p;obtain⟨rfl,rfl⟩:=p;simp only[Exit.inBlock,hi,if_true];exact D _ _ _ trivial r'
   .simp[hi]at p;obtain⟨rfl,rfl⟩:=p;simp only[Exit.inBlock,hi,g3_];exact D _ _ _ rfl r'
  |ret=>simp[J]at p;obtain⟨rfl,rfl⟩:=p;rw[SH he];exact D _ _ _ trivial r'
 |.loop c,n,st,st',ex,a,w,Q,hl,h,r,D=>(hl 0 c rfl).wp st ex st' h cx a w Q F u r D
 |.region id ops false,_,st,st',ex,a,w,Q,_,h,r,D=>by unfold CZ at h;subst F;obtain⟨h4,h,h5⟩:=UI h;have r:=h5 u r;have h9:=Sw (cx:=cx) cfok ops ops.toList h4;obtain⟨h6,h0,R⟩:=Mh (Ad h9 λ_=>Ai _) h;obtain⟨h3,h1,p⟩:=h9.spec<|aC h0;simp[J]at p;obtain⟨rfl,rfl⟩:=p;exact wp_region_list (ZC ok eqok cfok ops.toList h4 h3 a w h1 r λa' w' r'=>D _ _ _ trivial<|R u<|r'.kill _)
 |.region id ops N,_,st,st',ex,a,w,Q,_,h,r,D=>by unfold CZ at h;obtain⟨h4,h,h5⟩:=UI h;have r:=h5 u r;obtain⟨h6,h0,R⟩:=Mh (Ad (dok.law ops h4) λ_=>Ai _) h;obtain⟨h3,h1,p⟩:=(dok.law ops h4).spec<|aC h0;simp[J]at p;obtain⟨rfl,rfl⟩:=p;exact dok.wp ops h4 h3 h1 cx a w id Q F r λa' w' r'=>D _ _ _ trivial<|R u<|r'.kill _
 |.rangeFunc ..,_,_,_,_,_,_,_,_,h,_,_=>by simp[CZ,I]at h
 |.scope _,_,_,_,_,_,_,_,_,h,_,_=>by simp[CZ,I]at h
 |.label _,_,_,_,_,_,_,_,_,h,_,_=>by simp[CZ,I]at h
 |.goto _,_,_,_,_,_,_,_,_,h,_,_=>by simp[CZ,I]at h
 |.refuse _,_,_,_,_,_,_,_,_,h,_,_=>by simp[CZ,I]at h
def Au1(tmps:Array Value):ResultVar->Sem Value
 |.tmp t=>pure<|tmps.getD t undef
 |.cell a t=>do loadVar t<|<-asAddr (tmps.getD a undef)
theorem Bsw{h:Array Obj}{v:Value}(r:Rs G ν S h (.p x) v):Rp G ν S h x v:=by cases r;assumption
include ok in
theorem Bf6{cx:Cx}(r:RelI G cx ν S st a w){rv:ResultVar}(h:UN st rv=A x):
  ∃v,(Au1 a.tmps rv).run P w=.ok v w/\Rp G ν S w.heap x v:=by
 cases rv with
 |tmp t=>
  simp only[UN]at h;split at h
  .rename_i y hy;simp at h;subst h;exact⟨_,rfl,Bsw<|r.slot t _ hy⟩
  .simp at h
 |cell b t=>
  simp only[UN]at h;split at h
  .rename_i c hc;split at h
   .rename_i cs h1;have hs:=r.slot b _ hc;generalize hu:a.tmps.getD b undef=u at hs;cases hs with
    |p _ _ hp=>
    cases hp with
    |one _ _ h2=>
    obtain⟨bb,off,vs,rfl,hf,D,k⟩:=Ae7 ok r.heap h1 h2;have R:G.ty t≠ .no:=by
     intro e;rw[ok.nosz t e]at D
     have:cs=[]:=by have:=hf.1;rw[D]at this;exact S_ this
     subst this;simp[RK,e,Ty.isAgg]at h
    refine⟨_,?_,QH h hf⟩;have F:(loadCells ⟨bb,off,C⟩ vs.length).run P w=.ok vs.toArray w:=run_loadCells_list (P:=P) w ⟨bb,off,C⟩ vs (λj v hj=>by rw[Hz];exact k j v hj);simp only[Au1,hu,asAddr,loadVar,K_,a2_,u_,ok.isAgg w R];cases ha:(G.ty t).isAgg with
    |true=>simp only[if_true,K_,ok.sizeOf w R,u_,<-D,F,a2_]
    |false=>
     have Q:vs.length=1:=by
      simp only[RK,ha,j_]at h;split at h
      .have:=hf.1;simpa using this.symm
      .simp at h
     obtain⟨u,rfl⟩:∃u,vs=[u]:=List.length_eq_one_iff.1 Q;have h0:=k 0 u rfl;simp only[c7_]at h0;simp[h0]
   .simp at h
  .simp at h
include ok in
theorem Ar9{cx:Cx}{ν:Nat->Option Value}{S:Nat->Prop}{st:St G}{a:Act}{w:World}(r:RelI G cx ν S st a w):∀(rs:List ResultVar) (xs:List<|Pv G.T),Jp st rs=A xs->
  ∃vs:List Value,(rs.mapM<|Au1 a.tmps).run P w=.ok vs w/\F2 (Rp G ν S w.heap) xs vs
 |[],xs,h=>by simp[Jp]at h;subst h;exact⟨[],rfl,.nil⟩
 |F::t,xs,h=>by
  simp only[Jp]at h;split at h
  .rename_i x l p k;simp at h;subst h;obtain⟨v,h1,D⟩:=Bf6 ok r p;obtain⟨vs,u,y⟩:=Ar9 r t l k;exact⟨v::vs,by simp only[List.mapM_cons,K_,h1,u_,u,a2_],y.cons D⟩
  .simp at h
include ok in
theorem Aqq{cx:Cx}(r:RelI G cx ν S st a w){fn:Func}{s:Sv G.T}(h:RN st fn.results.toList=A s):
  ∃v,(results fn a.tmps).run P w=.ok v w/\Rs G ν S w.heap s v:=by
 unfold RN at h;cases k:Jp st fn.results.toList with
 |none=>simp[k]at h
 |some xs=>
  obtain⟨vs,h1,D⟩:=Ar9 ok r _ xs k;have u:(results fn a.tmps).run P w=.ok (if h:vs.toArray.size=1 then vs.toArray[0]else .tuple vs.toArray) w:=by
   have e:results fn a.tmps=(do let vs <-fn.results.mapM (Au1 a.tmps);pure (if h:vs.size=1 then vs[0]else .tuple vs)):=by unfold results;congr 1
   rw[e,K_,Array.mapM_eq_mapM_toList];simp only[Sem.run_map,h1];rfl
  refine⟨_,u,?_⟩;rw[k]at h;cases xs with
  |nil=>
   simp at h;subst h
   have:=D.inv_nil;subst this
   exact .tup _ _ .nil
  |cons x t=>
   cases t with
   |nil=>
    simp at h;subst h;obtain⟨v,Q,rfl,hv,R⟩:=D.inv
    have:=R.inv_nil;subst this
    exact .p _ _ hv
   |cons y Q=>
    simp at h;subst h;have F:vs.toArray.size≠1:=by have:=D.1;simp at this|-;omega
    rw[dif_neg F];exact .tup _ _ D
end
end Go.Ab
