import Derived.Test.YtnfjkodplikhjaaGreatDoorAbA
import Derived.Maps.AppendAt
import Derived.Laws.BytesString
import Derived.Laws.Externs
set_option linter.all false
open Option renaming some->A,none->C,map_none->aJ
open Go.Ab.M renaming fail->I,ret->J,bindneed->L,bindopt->V,bind_spec->aC
open Bool renaming true->N
open Go.Ab renaming Out->O,Blk->W,get->Y,Runs->Z,bindC->aB
open Go.Ab.CSh renaming take->U
open Nat renaming min->X,beq->aD,blt->aF,min_le_left->aH
open Go.Ab.Runs renaming outV->aA,outP->aE
open Array renaming range->aG
open List renaming getElem?_range->aI
namespace Go.Ab
variable{G:Sig}
variable{x:Operand}{t:Nat}
def Mf:List Value->List Value->Option Bool
 |[],[]=>A N
 |a::k,b::p=>
  match eqV a b,Mf k p with
  |some x,A y=>A<|x&&y
  |_,_=>C
 |_,_=>C
structure EqOK(P:Program)(G:Sig):Prop where
 guard:∀t,(G.ty t).isAgg=true->P.eqGuardType P.depth t=false
 eq:∀t (xs ys:List Value) b w,(G.ty t).isAgg=true->Sd G 20 t=true->Ds BF xs=zk G t->Ds BF ys=zk G t->Mf xs ys=some b->(Op.equal t (.agg xs.toArray) (.agg ys.toArray)).run P w=.ok b w
section
variable{P:Program}{ν:Nat->Option Value}{S B:Nat->Prop}{h:Nat->Option (W G.T)}{w:World}{ρ:Operand->Value}{o:Oper}
variable(ok:SigOK P G){ev:Operand->Option (Sv G.T)}(hev:∀x s,ev x=A s->Rs G ν S w.heap s (ρ x))(hr:HRel G ν S B h w)(hB:∀b,w.heap.size<=b->B b)
 {cf:Ch G}{nm:Nat}{out:O G}(hfresh:∀n∈out.nw,ν n=C)
include hev hr ok
theorem Ajm{i:Operand}(ho:o.op=.indexAddr t x i)(r:FA ev h t x i (O G) A=A out):Z P G ρ o ν S B h w out:=by
 unfold FA at r;cases ht:G.ty t with
 |arr n e=>
  simp only[ht]at r;obtain⟨c,hc,r⟩:=aB r;obtain⟨k,j,hj,r⟩:=Ae r;obtain⟨hu,he⟩:=ok.arr t n e ht;cases c with
  |ptr b off=>simp only[ixA]at r;obtain⟨hb,r⟩:=L r;simp[J]at r;subst r;obtain⟨h0,h1⟩:=Oj hb;obtain⟨b',h4,hv⟩:=Hk hev hc;have Q:=(Ff hev hj).1;refine aE hr (v:=.pointer<|A ⟨b',off+j.toNat*G.sz e,C⟩) ?_<|.one _ _ ⟨ω,b',h4,rfl⟩;unfold execOp;rw[ho];simp only[Instr.indexAt,Q,asIntOf,M_,a7_,u_,N_ hu w,hv,Instr.sureAddr,Sem.run_ite,ok.sizeOf w he,Ho];rw[if_pos ⟨h0,h1⟩];rfl
  |pr b t' j' off=>simp only[ixA]at r;obtain⟨hb,r⟩:=L r;simp[J]at r;subst r;obtain⟨h0,h1⟩:=Oj hb;obtain⟨b',len,R,h4,hd,hv⟩:=Hk hev hc;have Q:=(Ff hev hj).1;refine aE hr (v:=.pointer<|A ⟨b',j'*G.sz t'+off+j.toNat*G.sz e,C⟩) ?_<|.one _ _ ⟨b',len,R,h4,hd,by rw[Z_]⟩;unfold execOp;rw[ho];simp only[Instr.indexAt,Q,asIntOf,M_,a7_,u_,N_ hu w,hv,Instr.sureAddr,Sem.run_ite,ok.sizeOf w he,Ho];rw[if_pos ⟨h0,h1⟩];rfl
  |rp t' x' off=>
   simp only[ixA]at r;obtain⟨hb,r⟩:=L r;obtain⟨cs,hg,r⟩:=V r;obtain⟨y,hy,r⟩:=V r;simp[J]at r;subst r;obtain⟨h0,h1⟩:=Oj hb;have Q:=(Ff hev hj).1;have h6:Rd G S w.heap (.rp t' x' off)<|ρ x:=Hk hev hc;generalize hp:ρ x=vx at h6;cases h6 with
   |rp _ _ _ b base c te fz vs hS x1 x0 x3=>
    simp only[Xk]at hg;obtain⟨m1,m2⟩:=CH _ _ hg;have D:∀q,q<G.sz e->∃z,cs[q]?=A z/\(G.enc t' x')[off+j.toNat*G.sz e+q]?=A z:=by
     intro q hq;obtain⟨z,hz,hf⟩:=m2 q q (by simp[hq]);split at hf
     .rename_i l hl;obtain⟨l1,l2⟩:=CH _ _ hl;have hn:j.toNat<l.length:=by simp at l1;omega
      have hk:=YF hf hn;obtain⟨y',ha,hw⟩:=l2 j.toNat j.toNat (by rw[aI ω]);rw[hk]at ha;cases ha;exact⟨z,hz,hw⟩
     .simp at hf
    have x6:=ok.encdec e cs y hy;refine aE hr (v:=.pointer<|A ⟨b,base+off+j.toNat*G.sz e,C⟩) ?_<|.one _ _ ?_
    .unfold execOp;rw[ho];simp only[Instr.indexAt,Q,asIntOf,M_,a7_,u_,N_ hu w,hp,Instr.sureAddr,Sem.run_ite,ok.sizeOf w he,Ho];rw[if_pos ⟨h0,h1⟩];rfl
    .have:=Rd.rp (G:=G) (S:=S) (h:=w.heap) e y 0 b (base+off+j.toNat*G.sz e) c te fz (λq=>vs<|off+j.toNat*G.sz e+q) hS x1 (λq hq=>by
      obtain⟨z,_,hz⟩:=D q hq;have hd:=(f_.1 hz).1
      have:=ok.encl t' x'
      rw[<-x0 _ ω];congr 1;omega) (λq cv hq=>by
      rw[x6]at hq;have x4:q<G.sz e:=by have:=(f_.1 hq).1;simp at m1;omega
      obtain⟨z,hx,x2⟩:=D q x4;rw[hx]at hq;cases hq;exact x3 _ _ x2)
     exact this
  |_=>simp[ixA,I]at r
 |sl e=>
  simp only[ht]at r;obtain⟨c,hc,r⟩:=aB r;obtain⟨k,j,hj,r⟩:=Ae r;obtain⟨hu,he,_⟩:=ok.sl t e ht;have Q:=(Ff hev hj).1;have h8:∀(b off len R:Nat),ρ x=.slice (A ⟨b,off,C⟩) len R->0<=j->j<len->
    (execOp ρ o).run P w=.ok (.value<|.pointer<|A ⟨b,off+j.toNat*G.sz e,C⟩) w:=by
   intro b off len R hv h0 h1;unfold execOp;rw[ho];simp only[Instr.indexAt,Q,asIntOf,M_,a7_,u_,N_ hu w,hv,Sem.run_ite,ok.sizeOf w he,Ho];rw[if_pos ⟨h0,h1⟩];rfl
  cases c with
  |own m=>
   simp only[ixS]at r;cases hm:h m with
   |none=>simp[hm,I]at r
   |some blk=>
    cases blk with
    |cells cs=>simp[hm,I]at r
    |row e' l=>
     simp only[hm]at r;obtain⟨h7,h5⟩:=L r;obtain⟨hb,F⟩:=L h5;have h2:=AD.1 h7;simp[J]at F;subst F;subst h2;obtain⟨h0,h1⟩:=Oj hb;obtain⟨a,len,R,h3,hv⟩:=Hk hev hc;rcases hr.blk m _ hm with⟨g1,g2⟩|⟨b,x7,c,te,g1,g2,g3,g4,g5⟩
     .subst g2;simp at h1;omega
     .rw[h3]at g1;simp at g1;rw[g1]at hv h3;refine Runs.value hr rfl (v:=.pointer<|A ⟨b,0+j.toNat*G.sz e',C⟩) (h8 b 0 _ _ g1 h0 h1) λs hs=>?_;simp at hs;subst hs;exact .p _ _<|.one _ _ ⟨b,_,_,h3,ω,σ⟩
  |ro e' l=>
   simp only[ixS]at r;obtain⟨h7,h5⟩:=L r;obtain⟨hb,F⟩:=L h5;have h2:=AD.1 h7;simp[J]at F;subst F;subst h2;obtain⟨h0,h1⟩:=Oj hb;have h9:Rd G S w.heap (.ro e' l)<|ρ x:=Hk hev hc;generalize x5:ρ x=u at h9;cases h9 with
   |nil _ a R=>simp at h1;omega
   |ro _ _ b off R c te fz vs hS h4 _ x8 D h6=>
    have hi:j.toNat<l.length:=ω;refine aE hr (h8 b off _ _ x5 h0 h1)<|.one _ _ ?_
    have:=Rd.rp (G:=G) (S:=S) (h:=w.heap) e' (l.getD j.toNat<|G.dfl e') 0 b (off+j.toNat*G.sz e') c te fz (λq=>vs j.toNat q) hS h4 (λq hq=>by rw[D _ _ hi hq])
     (λq cv hq=>h6 j.toNat q _ cv (by simp[hi]) hq)
    exact this
  |sa m off len=>simp only[ixS]at r;obtain⟨hb,h5⟩:=L r;obtain⟨_,_,F⟩:=M.pick_spec h5;simp[J]at F;subst F;obtain⟨h0,h1⟩:=Oj hb;obtain⟨b,g1,g2⟩:=Hk hev hc;exact aE hr (h8 b off _ _ g2 h0 h1)<|.one _ _ ⟨b,g1,rfl⟩
  |_=>simp[ixS,I]at r
 |_=>simp[ht,I]at r
theorem Axi{i:Operand}(ho:o.op=.index t x i)(p:Rl ev t x i (O G) A=A out):Z P G ρ o ν S B h w out:=by
  unfold Rl at p;cases ht:G.ty t with
  |arr n e=>
    simp only[ht]at p;obtain⟨c,hc,p⟩:=SJ p;obtain⟨k,j,hj,p⟩:=Ae p;have h5:=UF hev hc;generalize hu:ρ x=u at h5;cases h5 with
    |one c v hv=>simp[Anu,I]at p
    |agg ds vs h2=>
    simp only[Anu]at p;obtain⟨R,p⟩:=L p;obtain⟨h0,h1⟩:=Oj R;obtain⟨hn,he⟩:=ok.arr t n e ht;have Q:=(Ff hev hj).1;have h4:=ok.pos _ he;have hk:∃cs y,Sh G e cs=A y/\out=outP y/\cs.length=G.sz e/\∀q,q<G.sz e->∃z,cs[q]?=A z/\ds[j.toNat*G.sz e+q]?=A z:=by
     cases h3:Bh6 ds with
     |true=>rw[h3]at p;obtain⟨_,_,p⟩:=M.pick_spec p;unfold Bop at p;obtain⟨cs,F,p⟩:=V p;obtain⟨y,hy,p⟩:=V p;simp[J]at p;subst p;obtain⟨p1,p2,p3⟩:=Om F;exact⟨cs,y,hy,rfl,p1,λq hq=>⟨cs[q]'ω,i_ _,by rw[<-p3 q hq];exact i_ _⟩⟩
     |false=>
      rw[h3]at p;obtain⟨cs,F,p⟩:=V p;obtain⟨y,hy,p⟩:=V p;simp[J]at p;subst p;simp only[Xk]at F;obtain⟨m1,m2⟩:=CH _ _ F;refine⟨cs,y,hy,rfl,by simpa using m1,λq hq=>?_⟩;obtain⟨z,hz,hf⟩:=m2 q q (by simp[hq]);split at hf
      · rename_i l hl
        obtain⟨l1,l2⟩:=CH _ _ hl;have hd:j.toNat<l.length:=by simp at l1;omega
        have h7:=YF hf hd;obtain⟨z',h8,hg⟩:=l2 j.toNat j.toNat (by rw[aI ω]);rw[h7]at h8;cases h8;exact⟨z,hz,hg⟩
      · cases hf
    obtain⟨cs,y,hy,rfl,hs,r⟩:=hk;have hp:=h2.1;have hw:j.toNat*G.sz e+G.sz e<=vs.length:=by
      obtain⟨z,_,hz⟩:=r (G.sz e-1) ω
      have:=(f_.1 hz).1
      omega
    have hF:F2 (Rc G ν S w.heap) cs<|(vs.drop<|j.toNat*G.sz e).take<|G.sz e:=by
      refine⟨by simp;omega,λi a b ha R=>?_⟩;have hi:i<G.sz e:=by have:=(f_.1 ha).1;omega
      obtain⟨z,hz,hm⟩:=r i hi;rw[hz]at ha;cases ha;rw[B_ hi,c4_]at R;exact h2.2 _ _ b hm R
    refine aE hr (v:=if(G.ty e).isAgg then .agg ((vs.drop<|j.toNat*G.sz e).take<|G.sz e).toArray else((vs.drop<|j.toNat*G.sz e).take<|G.sz e).getD 0 undef) ?_<|QU hy hF;unfold execOp;rw[ho];simp only[Instr.index,Q,asIntOf,M_,a7_,u_,N_ hn w,hu,Sem.run_ite,ok.sizeOf w he,Go.part,ok.isAgg w he];rw[if_pos ⟨h0,h1⟩];cases ha:(G.ty e).isAgg with
    |true=>simp
    |false=>have D:j.toNat*G.sz e<vs.length:=ω;rw[List.getD,B_ h4];simp[D]
  |str=>
    simp only[ht]at p;obtain⟨c,hc,p⟩:=aB p;obtain⟨k,j,hj,p⟩:=Ae p;unfold ixV at p;cases c with
    |sc v=>
      cases v with
      |string s=>
      obtain⟨R,p⟩:=L p;simp[J]at p;subst p;obtain⟨h0,h1⟩:=Oj R;have Q:=(Ff hev hj).1;have h9:=(Ff hev hc).1;refine aA hr ?_ rfl;have D:j.toNat<s.data.size:=by
        have:(s.size:Int)=s.data.size:=rfl
        omega
      have h6:(s[j.toNat]?:Option UInt8)=A (s.data[j.toNat]):=by
        have:j.toNat<s.size:=D
        simp[getElem?_pos,this];rfl
      unfold execOp;rw[ho];simp only[Instr.index,Q,h9,asIntOf,M_,a7_,u_,N_ (ok.str t ht) w,h0,if_true,h6,Cr];rw[y_,b5_ D];rfl
      |_=>simp[I]at p
    |_=>simp[I]at p
  |_=>simp[ht,I]at p
omit ok
theorem Amz{f:Nat}{a b:Array Operand}(ho:o.op=.makeFunc (.func f) a b)(k:Ve ev f a.toList b.toList (O G) A=A out):Z P G ρ o ν S B h w out:=by
 unfold Ve at k;obtain⟨as,k,ha⟩:=Af1 k;obtain⟨bs,k,hb⟩:=Af1 k;obtain⟨h1,Q,k⟩:=V k;obtain⟨h0,F,k⟩:=V k;simp[J]at k;subst k;have u:∀(xs:List Operand) (ys:List<|Pv G.T) (zs:List<|Nat×Nat),F2 (λx y=>ev x=A (.p y)) xs ys->Dc An1 ys=A zs->F2 (RPtr ν) zs (xs.map ρ):=by
  intro xs ys zs hF hm;obtain⟨m1,m2⟩:=CH _ _ hm;refine⟨by simp[m1,hF.1],λi z v hz D=>?_⟩;rw[X_]at D;cases hx:xs[i]? with
  |none=>simp[hx]at D
  |some x=>
   simp[hx]at D;subst D;obtain⟨y,hy,R⟩:=hF.get hx;obtain⟨z',r,hp⟩:=m2 i y hy;rw[hz]at r;simp at r;subst r;unfold An1 at hp;split at hp
   .rename_i n off;simp at hp;subst hp;exact Hk hev R
   .simp at hp
 refine aE hr (v:=.func (.func f) (a.toList.map ρ).toArray (b.toList.map ρ).toArray) ?_<|.one _ _ ⟨_,_,rfl,u _ _ _ ha Q,u _ _ _ hb F⟩;unfold execOp;rw[ho];simp[Instr.makeFunc,<-Array.toList_map]
omit hr
theorem SO{R:Type}{r:R}{k:Nat->Option R}{d m:Nat}{x:Option Operand}(p:Gx ev d m x R k=A r) :
  ∃n,k n=A r/\((x=C/\n=d)\/∃y u,x=A y/\ρ y=.int u (n:Int)/\n<=m):=by
 cases x with
 |none=>exact⟨d,p,.inl ⟨rfl,rfl⟩⟩
 |some y=>
  unfold Gx at p;obtain⟨u,i,F,p⟩:=Ae p;obtain⟨D,p⟩:=L p;simp at D
  have:=(Ff hev F).1
  exact⟨i.toNat,p,.inr ⟨y,u,rfl,by rw[this];congr 1;omega,ω⟩⟩
omit hev in
theorem Ahv{isS:Bool}{len r m a b:Nat}{lo F:Option Operand}(hb:(F=C/\b=len)\/∃y p,F=A y/\ρ y=.int p (b:Int)/\b<=m)(hm:m<=r)
  (ha:(lo=C/\a=0)\/∃y p,lo=A y/\ρ y=.int p (a:Int)/\a<=b) :
  (Instr.sliceBounds isS len r (lo.map ρ) (F.map ρ) C).run P w=.ok (a,b,r) w:=by
 have one:∀(p:IntKind) (n y:Nat) (k:BoundsCode),n<=y->(Instr.sliceBound (.int p (n:Int)) y k).run P w=.ok n w:=by
  intro p n y k hn
  have:(0:Int)<=(n:Int)/\(n:Int)<=(y:Int):=ω
  simp[Instr.sliceBound,asIntOf,this]
 unfold Instr.sliceBounds;rcases hb with⟨rfl,rfl⟩|⟨y,p,rfl,Q,D⟩<;>rcases ha with⟨rfl,rfl⟩|⟨z,h0,rfl,R,u⟩
 .simp
 .simp[R,one _ _ _ _ u]
 .simp[Q,one _ _ _ _<|b7_ D hm]
 .simp[Q,R,one _ _ _ _<|b7_ D hm,one _ _ _ _ u]
include hr ok
theorem Ayc{lo hi mx:Option Operand}(ho:o.op=.slice t x lo hi mx)(k:Rm ev t x lo hi mx (O G) A=A out):Z P G ρ o ν S B h w out:=by
 unfold Rm at k;cases mx with
 |some y=>simp[I]at k
 |none=>
 simp only at k;cases ht:G.ty t with
 |str=>
  simp only[ht]at k;obtain⟨c,hc,k⟩:=aB k;unfold Xh at k;cases c with
  |sc v=>
   cases v with
   |string s=>obtain⟨b,h1,hb⟩:=SO hev<|aC k;obtain⟨a,h2,ha⟩:=SO hev<|aC h1;simp[J]at h2;subst h2;have hf:=(Ff hev hc).1;refine aA hr ?_ rfl;unfold execOp;rw[ho];simp only[Instr.sliceAt,Instr.slice,hf,M_,u_,N_ (ok.str t ht) w,aJ];simp[Ahv (P:=P) (w:=w) (isS:=false) hb (q_ _) ha]
   |_=>simp[I]at k
  |_=>simp[I]at k
 |sl e=>
  simp only[ht]at k;obtain⟨c,hc,k⟩:=aB k;obtain⟨hu,he,_⟩:=ok.sl t e ht;unfold Xg at k;cases c with
  |ro e' l=>
   obtain⟨hm,h0⟩:=L k;have h4:=AD.1 hm;obtain⟨b,h1,hb⟩:=SO hev<|aC h0;obtain⟨a,h2,ha⟩:=SO hev<|aC h1;simp[J]at h2;subst h2;subst h4;have hk:b<=l.length:=by rcases hb with⟨_,rfl⟩|⟨_,_,_,_,hb⟩<;>omega
   have hn:a<=b:=by rcases ha with⟨_,rfl⟩|⟨_,_,_,_,ha⟩<;>omega
   have F:∀(a0:Option Addr) (p:Nat),l.length<=p->ρ x=.slice a0 l.length p->
     (execOp ρ o).run P w=.ok (.value (.slice (if p=a then a0 else a0.map (·.add (a*G.sz e'))) (b-a)<|p-a)) w:=by
    intro a0 p r hv;unfold execOp;rw[ho];simp only[Instr.sliceAt,Instr.slice,hv,M_,u_,N_ hu w,aJ];simp[Ahv (P:=P) (w:=w) (isS:=N) hb r ha,ok.sizeOf w he]
   have h5:Rd G S w.heap (.ro e' l)<|ρ x:=Hk hev hc;generalize h6:ρ x=u at h5;have D:((l.take b).drop a).length=b-a:=by simp;omega
   have h7:∀v,Rd G S w.heap (.ro e'<|(l.take b).drop a) v->(execOp ρ o).run P w=.ok (.value v) w->Z P G ρ o ν S B h w (outP<|.one<|.ro e'<|(l.take b).drop a):=λv hv hx=>aE hr hx<|.one _ _ hv;cases h5 with
   |nil _ a0 p=>
    have hg:b=0:=by simpa using hk
    have h9:a=0:=ω;subst hg;subst h9;refine h7 _ ?_<|F a0 p σ (by simpa using h6);simp;exact .nil _ _ _
   |ro _ _ bb off p c te fz vs hS R h8 r h3 hl=>
    refine h7 _ ?_<|F _ p r h6;by_cases hz:b=a
    .have:(l.take b).drop a=[]:=S_ (by rw[D];omega)
     rw[this,show b-a=0 by omega];exact .nil _ _ _
    .rw[if_neg ω];simp only[e8_,Ho];rw[<-D];refine .ro e' _ bb (off+a*G.sz e') (p-a) c te fz (λi j=>vs (a+i) j) hS R h8 (by rw[D];omega) (λi j hi hj=>?_) (λi j x' cv Q hd=>?_)
     .rw[D]at hi;rw[<-h3 (a+i) j ω hj];congr 1;rw[a5_];omega
     .have hi:i<b-a:=by have:=(f_.1 Q).1;omega
      rw[c4_,B_ ω]at Q;exact hl (a+i) j x' cv Q hd
  |_=>simp[I]at k
 |arr n e=>
  simp only[ht]at k;obtain⟨c,hc,k⟩:=aB k;obtain⟨hu,he⟩:=ok.arr t n e ht;unfold Ar2 at k;cases c with
  |ptr b off=>
   cases lo with
   |some _=>simp[I]at k
   |none=>
    cases hi with
    |some _=>simp[I]at k
    |none=>simp[J]at k;subst k;obtain⟨b',R,hv⟩:=Hk hev hc;refine aE hr (v:=.slice (A ⟨b',off,C⟩) n n) ?_<|.one _ _ ⟨b',R,rfl⟩;unfold execOp;rw[ho];simp[Instr.sliceAt,Instr.sliceBounds,hv,N_ hu w,ok.sizeOf w he,Instr.sureAddr,Ho]
  |_=>simp[I]at k
 |_=>simp[ht,I]at k
theorem Af9{s:Nat}(F:o.op=.convert s t x)(R:(!Oc (G.ty s))=N){c:Cv G.T}(hc:ev x=A (.p<|.one c))(h1:Abv (G.ty t) c (O G) A=A out):Z P G ρ o ν S B h w out:=by
 have Q:∃d,P.underlying s=A d:=by
  cases r:G.ty s with
  |no=>simp[r,Oc]at R
  |bool=>exact⟨_,ok.bool s r⟩
  |int k=>exact⟨_,ok.int s k r⟩
  |flt k=>exact⟨_,ok.flt s k r⟩
  |str=>exact⟨_,ok.str s r⟩
  |sl e=>exact⟨_,(ok.sl s e r).1⟩
  |pt e=>exact⟨_,ok.pt s e r⟩
  |fn=>obtain⟨a,b,c,y⟩:=ok.fn s r;exact⟨_,y⟩
  |st fs=>obtain⟨a,y,_⟩:=ok.strc s fs r;exact⟨_,y⟩
  |arr n e=>exact⟨_,(ok.arr s n e r).1⟩
 obtain⟨d,y⟩:=Q;unfold Abv at h1;cases c with
 |sc v=>
  have D:=(Ff hev hc).1;cases u:G.ty t with
  |int k=>
   cases v with
   |int k' n=>simp[u,J]at h1;subst h1;refine aA hr ?_ rfl;unfold execOp;rw[F];simp[Go.convert,D,N_ y w,N_ (ok.int t k u) w,Conv.intToInt]
   |_=>simp[u,I]at h1
  |str=>
   cases v with
   |string s'=>simp[u,J]at h1;subst h1;refine aA hr ?_ rfl;unfold execOp;rw[F];simp[Go.convert,D,N_ y w,N_ (ok.str t u) w]
   |_=>simp[u,I]at h1
  |flt k=>
   cases v with
   |int k' n=>simp[u,J]at h1;subst h1;refine aA hr ?_ rfl;unfold execOp;rw[F];simp[Go.convert,D,N_ y w,N_ (ok.flt t k u) w,Conv.intToFloat,Bf9]
   |_=>simp[u,I]at h1
  |_=>simp[u,I]at h1
 |_=>simp[I]at h1
end
end Go.Ab
namespace Go.Ab
variable{G:Sig}
def Bah{op:BinOp}{x y:Value}{R:Type}{k:Value->Option R}{r:R}(P:Program)(t:TypeId)(w:World)(h:bin op x y R k=A r) :
  ∃v,k v=A r/\Kc v=N/\(binOp op t x y).run P w=.ok v w:=by
 cases x with
 |int a m=>
  cases y with
  |int b n=>
   have D:∀(f:Int) ,(M.bind (M.need<|Ei a b) λ_=>J<|Value.int a f) R k=A r->(a=b->(binOp op t (.int a m)<|.int b n).run P w=.ok (.int a f) w)->∃v,k v=A r/\Kc v=N/\(binOp op t (.int a m)<|.int b n).run P w=.ok v w:=by intro f hf Q;obtain⟨p,h1⟩:=L hf;exact⟨_,h1,rfl,Q<|He p⟩
   cases op with
   |add=>exact D _ h λe=>by subst e;simp[binOp,Op.intArith]
   |sub=>exact D _ h λe=>by subst e;simp[binOp,Op.intArith]
   |mul=>exact D _ h λe=>by subst e;simp[binOp,Op.intArith]
   |quo=>
    simp only[bin,Rr]at h;obtain⟨p,h1⟩:=L h;obtain⟨hn,u⟩:=L h1;have e:=He p;subst e;have F:n≠0:=by simpa using hn
    exact⟨_,u,rfl,by simp[binOp,Op.intDiv,F]⟩
   |rem=>
    simp only[bin,Rr]at h;obtain⟨p,h1⟩:=L h;obtain⟨hn,u⟩:=L h1;have e:=He p;subst e;have F:n≠0:=by simpa using hn
    exact⟨_,u,rfl,by simp[binOp,Op.intDiv,F]⟩
   |shl=>
    simp only[bin,Rr]at h;obtain⟨p,h1⟩:=L h;obtain⟨q,hq,u⟩:=V h1;simp[shI]at hq;subst hq;have hb:¬n<0:=by simpa using p
    exact⟨_,u,rfl,by simp[binOp,Op.shift,hb]⟩
   |shr=>
    simp only[bin,Rr]at h;obtain⟨p,h1⟩:=L h;obtain⟨q,hq,u⟩:=V h1;simp[shI]at hq;subst hq;have hb:¬n<0:=by simpa using p
    exact⟨_,u,rfl,by simp[binOp,Op.shift,hb]⟩
   |and|or|xor|andNot=>simp only[bin,Rr]at h;obtain⟨p,h1⟩:=L h;obtain⟨q,hq,u⟩:=V h1;simp[Awa,Lc]at hq;subst hq;have e:=He p;subst e;exact⟨_,u,rfl,by simp[binOp,Op.intBits]⟩
   |eql|neq|lss|leq|gtr|geq=>simp only[bin,Rr]at h;obtain⟨p,h1⟩:=L h;obtain⟨q,hq,u⟩:=V h1;simp[XE]at hq;subst hq;have e:=He p;subst e;exact⟨_,u,rfl,by simp[binOp,Op.intCmp]⟩
  |_=>simp[bin,I]at h
 |float a m=>
  cases y with
  |float b n=>
   cases op with
   |add|sub|mul|quo=>simp only[bin,Afz]at h;obtain⟨p,h1⟩:=L h;obtain⟨q,hq,u⟩:=V h1;have e:=Ajf p;subst e;rw[Bnh]at hq;simp only[arG]at hq;exact⟨_,u,rfl,by simp[binOp,Op.floatArith,hq]⟩
   |_=>simp only[bin,Afz]at h;obtain⟨p,h1⟩:=L h;obtain⟨q,hq,u⟩:=V h1;have e:=Ajf p;subst e;simp[Bpr]at hq<;>subst hq<;>exact⟨_,u,rfl,by simp[binOp,Op.floatCmp]⟩
  |_=>simp[bin,I]at h
 |string a=>
  cases y with
  |string b=>
   cases op with
   |add=>
    simp only[bin,Af0]at h;obtain⟨p,h1⟩:=L h;refine⟨_,h1,rfl,?_⟩
    have:¬(((a.size+b.size:Nat):Int)>IntKind.i64.max):=by
     have u:=C_ p
     have:IntKind.i64.max=9223372036854775807:=rfl
     rw[this];omega
    simp only[binOp,Op.stringOp,if_neg this];rfl
   |eql|neq|lss|leq|gtr|geq=>exact⟨_,h,rfl,by simp[binOp,Op.stringOp,eqB,ltB]⟩
   |_=>simp[bin,Af0,I]at h
  |_=>simp[bin,I]at h
 |_=>simp[bin,I]at h
def Aup{P:Program}{t:TypeId}(p:P.underlying t=A .bool)(a b:Bool)(w:World):(Op.equal t (.bool a)<|.bool b).run P w=.ok (a==b) w:=by
 have k:∀d:Nat,(Op.equalIn (d+1) t (.bool a)<|.bool b).run P w=.ok (a==b) w:=λd=>by simp[Op.equalIn,N_ p]
 exact k 9999
section
variable{P:Program}{ν:Nat->Option Value}{S B:Nat->Prop}{h:Nat->Option (W G.T)}{w:World}{ρ:Operand->Value}{o:Oper}
variable(ok:SigOK P G)(eqok:EqOK P G){ev:Operand->Option (Sv G.T)}(hev:∀x s,ev x=A s->Rs G ν S w.heap s (ρ x))(hr:HRel G ν S B h w)(hB:∀b,w.heap.size<=b->B b)
 {cf:Ch G}{nm:Nat}{out:O G}(hfresh:∀n∈out.nw,ν n=C)
include hev hr
theorem Bkz{op:UnOp}{t:Nat}{x:Operand}(r:o.op=.unOp op t x)(k:aUn ev op x (O G) A=A out):Z P G ρ o ν S B h w out:=by
 unfold aUn at k;obtain⟨c,y,h1⟩:=aB k;unfold unP at h1;cases c with
 |sc v=>
  have p:=(Ff hev y).1;cases op<;>cases v<;>simp[I]at h1
  .simp[J]at h1;subst h1;refine aA hr ?_ rfl;unfold execOp;rw[r];simp[p,Op.unary,Op.intArith]
  .obtain⟨q,hq,u⟩:=V h1;simp[Awa,Lc]at hq;subst hq;simp[J]at u;subst u;refine aA hr ?_ rfl;unfold execOp;rw[r];simp[p,Op.unary,Op.intBits]
  .simp[J]at h1;subst h1;refine aA hr ?_ rfl;unfold execOp;rw[r];simp[p,Op.unary]
 |_=>cases op<;>simp[I]at h1
include ok eqok
theorem Beo{op:BinOp}{t t':Nat}{x y:Operand}(ho:o.op=.binOp op t x y t')(hj:Zy ev op t x y (O G) A=A out):Z P G ρ o ν S B h w out:=by
 unfold Zy at hj;obtain⟨a,ha,h1⟩:=SJ hj;obtain⟨b,hb,D⟩:=SJ h1;unfold Ben at D;cases a with
 |one c=>
  cases b with
  |one d=>
   simp only[Bel]at D;cases h8:Axr d with
   |true=>
    rw[h8]at D;obtain⟨q,hq,h4⟩:=V D;have hd:d=.sc (.pointer C):=by
     unfold Axr at h8;split at h8
     .rfl
     .cases h8
    subst hd;have hu:=Ff hev hb;have hc:=Hk hev ha;have hp:∃e p,G.ty t=.pt e/\ρ x=.pointer p/\p.isNone=q:=by
     unfold Bpk at hq;split at hq
     .rename_i e n off F;obtain⟨b',_,hv⟩:=hc;cases hq;exact⟨e,_,F,hv,rfl⟩
     .rename_i e F;cases hq;exact⟨e,C,F,(Ff hev ha).1,rfl⟩
     .cases hq
    obtain⟨e,p,F,hv,hw⟩:=hp;have x4:P.underlying t=A (.pointer<|P.pointee t):=by have h:=ok.pt t e F;unfold Program.pointee;rw[h]
    have hg:(eqGuard op t x y (.pointer p)<|.pointer C).run P w=.ok () w:=by
     unfold eqGuard;cases op<;>simp
     all_goals rfl
    unfold Bem at h4;cases op with
    |eql=>simp[J]at h4;subst h4;subst hw;refine aA hr ?_ rfl;unfold execOp;rw[ho];simp[hv,hu.1,hg,run_eql_pointer_nil w t p x4]
    |neq=>simp[J]at h4;subst h4;subst hw;refine aA hr ?_ rfl;unfold execOp;rw[ho];simp[hv,hu.1,hg,run_neq_pointer_nil w t p x4]
    |_=>simp[I]at h4
   |false=>
   rw[h8,g_]at D;cases c with
   |sc v=>
    cases d with
    |sc u=>
     simp only at D;have hv:=Ff hev ha;have hu:=Ff hev hb;have x7:v≠ .nilIface:=by rintro rfl;unfold Aoy at D;generalize G.ty t=y at D;cases y<;>simp[bin,M.bind,I]at D
     have hg:(eqGuard op t x y v u).run P w=.ok () w:=by
      unfold eqGuard;cases op<;>simp
      all_goals cases v<;>simp[Kc]at hv<;>(try exact absurd rfl x7)<;>(try(cases u<;>simp[Kc]at hu))<;>rfl
     have hn:∀r,out=outV r->Kc r=N->(binOp op t v u).run P w=.ok r w->Z P G ρ o ν S B h w out:=by rintro r rfl x8 h6;refine aA hr ?_ x8;unfold execOp;rw[ho];simp[hv.1,hu.1,hg,h6]
     have xb:(M.bind (bin op v u) λr=>J<|outV r) (O G) A=A out->Z P G ρ o ν S B h w out:=by intro hh;obtain⟨r,R,h4,h5⟩:=Bah P t w<|aC hh;simp[J]at R;exact hn r R.symm h4 h5
     by_cases x3:∃a' b',G.ty t=.bool/\v=.bool a'/\u=.bool b'
     .obtain⟨a',b',F,rfl,rfl⟩:=x3;have hs:=ok.bool t F;simp only[Aoy,F]at D;cases op<;>simp[I]at D
      .simp[J]at D;exact hn _ D.symm rfl (by simp only[binOp];simp[Aup hs])
      .simp[J]at D;exact hn _ D.symm rfl (by simp only[binOp];simp[Aup hs])
     .refine xb ?_;unfold Aoy at D;generalize F:G.ty t=y at D;cases y with
      |bool=>
       cases v<;>try exact D
       cases u<;>try exact D
       exact absurd ⟨_,_,F,rfl,rfl⟩ x3
      |_=>exact D
    |_=>simp[I]at D
   |_=>cases d<;>simp[I]at D
  |agg Q=>simp[I]at D
 |agg cs=>
  cases b with
  |one d=>simp[I]at D
  |agg Q=>
   simp only at D;obtain⟨h9,R⟩:=L D;obtain⟨q,hq,h4⟩:=V R;simp only[a_,Boa]at h9;obtain⟨hi,⟨F,ht⟩,x6⟩:=h9;have x0:=UF hev ha;have x2:=UF hev hb;generalize hu:ρ x=u at x0;generalize he:ρ y=u' at x2;cases x0 with
   |agg _ vs h7=>
   cases x2 with
   |agg _ us hf=>
   have xf:∀(cs Q:List<|Cv G.T) (vs us:List Value) (q:Bool),F2 (Rc G ν S w.heap) cs vs->F2 (Rc G ν S w.heap) Q us->Hc cs Q=A q->Mf vs us=A q:=by
    intro cs;induction cs with
    |nil=>
     intro Q vs us q h1 D R;cases Q with
     |nil=>simp[Hc]at R;rw[h1.inv_nil,D.inv_nil,R];rfl
     |cons d Q=>simp[Hc]at R
    |cons c cs ih=>
     intro Q vs us q h1 D R;cases Q with
     |nil=>cases c<;>simp[Hc]at R
     |cons d Q=>
      obtain⟨v,hm,rfl,hv,h7⟩:=h1.inv;obtain⟨u,xa,rfl,hu,hf⟩:=D.inv;cases c with
      |sc v0=>
       cases d with
       |sc u0=>
        have ev:v=v0:=by have hl:Rd G S w.heap (.sc v0) v:=hv;cases hl;rfl
        have eu:u=u0:=by have he:Rd G S w.heap (.sc u0) u:=hu;cases he;rfl
        subst ev;subst eu;simp only[Hc]at R;split at R
        .rename_i x' y' hx hy
         have:=ih Q hm xa y' h7 hf hy
         simp at R;simp[Mf,hx,this,R]
        .simp at R
       |_=>simp[Hc]at R
      |_=>simp[Hc]at R
   have x9:=xf cs Q vs us q h7 hf hq;have x1:∀(cs:List<|Cv G.T) (vs:List Value) (ks:List Nat),F2 (Rc G ν S w.heap) cs vs->Ix (Ds Ag3 cs) ks=N->(∀k∈ks,k≠0)->Ds BF vs=ks:=by
    intro cs;induction cs with
    |nil=>intro vs ks h1 D _;rw[h1.inv_nil];cases ks<;>simp[Ds,Ix]at D|-
    |cons c cs ih=>
     intro vs ks h1 D R;obtain⟨v,hm,rfl,hv,h7⟩:=h1.inv;cases ks with
     |nil=>simp[Ds,Ix]at D
     |cons k ks=>
      simp only[Ds,Ix,a_]at D|-;have hk:Ag3 c=k:=AD.1 D.1;have x5:=R k σ;cases c with
      |sc v0=>
       have ev:v=v0:=by have hl:Rd G S w.heap (.sc v0) v:=hv;cases hl;rfl
       subst ev;rw[ih hm ks h7 D.2 λk' xd=>R k' (by simp[xd])];have hk:BF v=k:=hk;rw[hk]
      |_=>exact absurd hk.symm x5
   have hz:∀k∈zk G t,k≠0:=by
    have xe:∀(cs Q:List<|Cv G.T) (q:Bool) (ks:List Nat),Hc cs Q=A q->Ix (Ds Ag3 cs) ks=N->∀k∈ks,k≠0:=by
     intro cs;induction cs with
     |nil=>intro Q q ks _ D k hk;cases ks<;>simp[Ds,Ix]at D hk
     |cons c cs ih=>
      intro Q q ks h1 D k hk;cases ks with
      |nil=>simp at hk
      |cons k0 ks=>
       simp only[Ds,Ix,a_]at D;cases Q with
       |nil=>cases c<;>simp[Hc]at h1
       |cons d Q=>
        cases c with
        |sc v0=>
         cases d with
         |sc u0=>
          simp only[Hc]at h1;split at h1
          .rename_i x' y' hx hy;rcases x_.1 hk with rfl|hk
           .have h0:BF v0=k:=AD.1 D.1;intro xc;rw[xc]at h0;cases v0 with
            |float k' n=>cases k'<;>simp[BF]at h0
            |int k' n=>cases k'<;>simp[BF]at h0
            |bool b=>simp[BF]at h0
            |string b=>simp[BF]at h0
            |_=>simp[eqV]at hx
           .exact ih Q y' ks hy D.2 k hk
          .simp at h1
         |_=>simp[Hc]at h1
        |_=>simp[Hc]at h1
    exact xe cs Q q _ hq ht
   have h6:=eqok.eq t vs us q w hi F (x1 cs vs _ h7 ht hz) (x1 Q us _ hf x6 hz) x9;have hg:(eqGuard op t x y (.agg vs.toArray)<|.agg us.toArray).run P w=.ok () w:=by unfold eqGuard;cases op<;>simp[eqok.guard t hi]
   cases op with
   |eql=>simp[J]at h4;subst h4;refine aA hr (v:=.bool q) ?_ rfl;unfold execOp;rw[ho];simp[hu,he,hg,binOp,h6]
   |neq=>simp[J]at h4;subst h4;refine aA hr (v:=.bool<|!q) ?_ rfl;unfold execOp;rw[ho];simp[hu,he,hg,binOp,h6]
   |_=>simp[I]at h4
end
end Go.Ab
namespace Go.Ab
variable{G:Sig}
variable{q:Cv G.T×List Nat}{fz:List Nat}{v:Value}
def Oh:∀(l:List Nat) (h:Nat->Option (W G.T)) (n:Nat),By h (MK l) n=if n∈l then C else h n
 |[],h,n=>by simp[MK,By]
 |m::t,h,n=>by
  simp only[MK,By,Oh t];by_cases h1:n∈t
  .simp[h1]
  .by_cases k:n=m
   .simp[k]
   .simp[h1,k,e4_ k]
def Aai(h:RC v=N):v=.slice C 0 0:=by
 unfold RC at h;split at h
 .rfl
 .simp at h
def XD{t k:Nat}{l:List<|G.T t}{p:List<|G.T k}(h:Po G t k l=A p):∃e:t=k,e▸l=p:=by
 unfold Po at h;split at h
 .rename_i e;simp at h;exact⟨e,h⟩
 .simp at h
def Adu(h:Nat->Option (W G.T)):∀(d e:List<|Nat×Option (W G.T)),By h (d++e)=By (By h d) e
 |[],_=>rfl
 |p::d,e=>by obtain⟨n,ob⟩:=p;exact Adu _ d e
section
variable{ν:Nat->Option Value}{S B:Nat->Prop}{h:Nat->Option (W G.T)}{w:World}
def Us(ν:Nat->Option Value)(S:Nat->Prop)(h:Nat->Option (W G.T))(fz:List Nat)(b:Nat):Prop:=S b\/∃n∈fz,h n≠C/\∃y,ν n=A y/\AO y=A b
def HRel.frz(hr:HRel G ν S B h w)(fz:List Nat):HRel G ν (Us ν S h fz) B (By h<|MK fz) w:=by
 have p:∀n,By h (MK fz) n≠C->n∉fz/\h n≠C:=by
  intro n r;rw[Oh]at r;by_cases e:n∈fz
  .simp[e]at r
  .rw[if_neg e]at r;exact⟨e,r⟩
 refine⟨λn k hk=>?_,λn m x y b r R=>hr.apart n m x y b (p n r).2 (p m R).2,λn x b r hx F=>⟨?_,(hr.own n x b (p n r).2 hx F).2⟩,λb F=>?_,hr.gl.mono (λ_ h=>.inl h) λ_ _=>rfl⟩
 .have r:=p n (by rw[hk];simp);rw[Oh,if_neg r.1]at hk;exact(hr.blk n k hk).mono ⟨λ_ _ h=>h,λ_ h=>.inl h,λ_ _=>rfl⟩ λ_ _ _ _=>rfl
 .rintro(hS|⟨m,R,u,y,Q,D⟩)
  .exact(hr.own n x b (p n r).2 hx F).1 hS
  .have:=hr.apart n m x y b (p n r).2 u hx Q F D
   subst this;exact(p n r).1 R
 .rcases F with hS|⟨m,_,u,y,Q,D⟩
  .exact hr.stay b hS
  .exact hr.lt u Q D
def Bfl(hr:HRel G ν S B h w){b:Nat}(r:Us ν S h fz b):S b\/B b:=by
 rcases r with D|⟨m,_,k,y,u,p⟩
 .exact .inl D
 .exact .inr (hr.own m y b k u p).2
def Post.frz{out out1:O G}{u:Nat->Option (W G.T)}{ν':Nat->Option Value}{S':Nat->Prop}{w':World}(hr:HRel G ν S B h w)(y:out.v=out1.v)(r:out.nw=out1.nw)
  (p:Post G ν (Us ν S h fz) B (By h<|MK fz) w out1 u ν' S' w' v):Post G ν S B h w out u ν' S' w' v:=by
 refine⟨p.nu,by rw[r];exact p.new,λb k=>p.st b<|.inl k,λb k=>?_,p.rel,by rw[y];exact p.val,p.size,λb k D=>p.frame b k λn x r F=>D n x ?_ F,p.env⟩
 .rcases p.stn b k with h1|h1
  .exact Bfl hr h1
  .exact .inr h1
 .rw[Oh]at r;by_cases e:n∈fz
  .simp[e]at r
  .rwa [if_neg e]at r
def Bbh(hr:HRel G ν S B h w){y c:Cv G.T}(hq:Ajl h y c=A q)(h7:∀n∈q.2,n∈fz)(p:Rc G ν S w.heap c v):Rc G ν (Us ν S h fz) w.heap q.1 v:=by
 have F:∀{c:Cv G.T},Rc G ν S w.heap c v->Rc G ν (Us ν S h fz) w.heap c v:=λr=>r.mono ⟨λ_ _ h=>h,λ_ h=>.inl h,λ_ _=>rfl⟩;unfold Ajl at hq;split at hq
 .rename_i e l0 n;split at hq
  .rename_i t l hn;split at hq
   .rename_i l' hl;obtain⟨rfl,rfl⟩:=XD hl;simp at hq;subst hq;obtain⟨av,len,D,k,rfl⟩:=p;rcases hr.blk n _ hn with⟨h1,h2⟩|⟨b,h8,c,te,h1,h2,h3,h4,h5⟩
    .rw[k]at h1;simp at h1;obtain⟨rfl,rfl,rfl⟩:=h1;subst h2;exact Rd.nil _ _ _
    .rw[k]at h1;simp at h1;obtain⟨rfl,rfl,rfl⟩:=h1;have Q:Us ν S h fz b:=.inr ⟨n,h7 n σ,by rw[hn];simp,_,k,rfl⟩;show Rd G (Us ν S h fz) w.heap (.ro t l) _;refine .ro t l b 0 D c te (0,0) (λi j=>c.getD (i*G.sz t+j) undef) Q h2 (.inl h5.2.1) h3 (λi j hi hj=>?_) (λi j x cv hx h0=>?_)
     .have F:(i+1)*G.sz t<=D*G.sz t:=K_ _ ω;rw[a5_]at F;have R:i*G.sz t+j<c.size:=ω;rw[m_];simp[R]
     .obtain⟨v,hv,h6⟩:=h5.1 i j x cv hx h0
      have:c.getD (i*G.sz t+j) undef=v:=by rw[y_,hv];rfl
      rw[this];exact h6.mono (λ_ h=>.inl h) λ_ _=>rfl
   .simp at hq
  .simp at hq
 .rename_i e l0 u;simp at hq;subst hq;cases hk:RC u with
  |false=>exact F p
  |true=>
   have hu:=Aai hk;subst hu;have hv:v=.slice C 0 0:=by have p:Rd G S w.heap (.sc<|.slice C 0 0) v:=p;cases p;rfl
   subst hv;exact Rd.nil _ _ _
 .simp at hq;subst hq;exact F p
def Aad(hr:HRel G ν S B h w):∀{u cs:List<|Cv G.T}{q:List (Cv G.T)×List Nat},Pu h u cs=A q->∀{fz:List Nat},(∀n∈q.2,n∈fz)->∀{vs:List Value},F2 (Rc G ν S w.heap) cs vs->F2 (Rc G ν (Us ν S h fz) w.heap) q.1 vs
 |[],[],q,hq,_,_,vs,r=>by simp[Pu]at hq;subst hq;rw[r.inv_nil];exact .nil
 |R::u,c::cs,q,hq,fz,k,vs,r=>by
  unfold Pu at hq;split at hq
  .rename_i a b F D;simp at hq;subst hq;obtain⟨y,t,rfl,h1,Q⟩:=r.inv;exact .cons (Bbh hr F (λn p=>k n (by simp[p])) h1)<|Aad hr D (λn p=>k n (by simp[p])) Q
  .simp at hq
 |[],_::_,_,hq,_,_,_,_=>by simp[Pu]at hq
 |_::_,[],_,hq,_,_,_,_=>by simp[Pu]at hq
end
def Bfk{h h':Nat->Option (W G.T)}{k c:Cv G.T}(hq:Ajl h k c=A q)(hh:∀n∈q.2,h' n=h n):Ajl h' k c=A q:=by
 unfold Ajl at hq|-;split at hq
 .rename_i e y n;split at hq
  .rename_i t l p;split at hq
   .rename_i u r;simp at hq;subst hq;rw[hh n σ,p];simp only[r]
   .simp at hq
  .simp at hq
 .exact hq
 .exact hq
def Aeg{h h':Nat->Option (W G.T)}:∀{p cs:List<|Cv G.T}{q:List (Cv G.T)×List Nat},Pu h p cs=A q->(∀n∈q.2,h' n=h n)->Pu h' p cs=A q
 |[],[],q,hq,_=>by simpa[Pu]using hq
 |y::p,c::cs,q,hq,hh=>by
  unfold Pu at hq|-;split at hq
  .rename_i a b u r;simp at hq;subst hq;rw[Bfk u λn k=>hh n (by simp[k]),Aeg r λn k=>hh n (by simp[k])]
  .simp at hq
 |[],_::_,_,hq,_=>by simp[Pu]at hq
 |_::_,[],_,hq,_=>by simp[Pu]at hq
end Go.Ab
namespace Go.Ab
variable{G:Sig}
variable{parts:Array (Nat×Operand)}{t e:Nat}{hh:Array Obj}{z:Value}
def Alf(off:Nat):∀(vs:List Value) (k:Nat) (cs:Array Value),off+k+vs.length<=cs.size->
  ((vs.zipIdx k).foldl (λ(cs:Array Value) p=>cs.setIfInBounds (off+p.2) p.1) cs).size=cs.size/\
  ∀j,((vs.zipIdx k).foldl (λ(cs:Array Value) p=>cs.setIfInBounds (off+p.2) p.1) cs)[j]?=if off+k<=j/\j<off+k+vs.length then vs[j-(off+k)]? else cs[j]?
 |[],k,cs,_=>by simp;intro j h1 u;omega
 |v::vs,k,cs,h=>by
  simp only[s_]at h;obtain⟨h1,u⟩:=Alf off vs (k+1) (cs.setIfInBounds (off+k) v) (by simp;omega);simp only[List.zipIdx_cons,List.foldl_cons,s_];refine⟨by rw[h1];simp,λj=>?_⟩;rw[u j];simp only[f7_];by_cases r:off+k=j
  .subst r;rw[if_neg ω,if_pos rfl,if_pos ω,if_pos ω];simp
  .by_cases hr:off+(k+1)<=j/\j<off+(k+1)+vs.length
   .rw[if_pos hr,if_pos ω,show j-(off+k)=(j-(off+(k+1)))+1 by omega];simp
   .rw[if_neg hr,if_neg r,if_neg ω]
def SU{R:Cv G.T->Value->Prop}{D:Nat->Option (Nat×Nat)}:∀(ps:List<|Nat×Pv G.T) (qs:List<|Nat×Value) (cells:List<|Cv G.T) (cs:Array Value) (k:List<|Cv G.T),
  F2 R cells cs.toList->F2 (λp q=>p.1=q.1/\F2 R p.2.cells q.2.cells.toList) ps qs->XV D cells ps=A k->
  ∃F,Instr.fill D cs qs=A F/\F2 R k F.toList
 |[],qs,cells,cs,k,hc,hp,h=>by simp[XV]at h;subst h;rw[hp.inv_nil];exact⟨cs,rfl,hc⟩
 |(i,v)::ps,qs,cells,cs,k,hc,hp,h=>by
  obtain⟨⟨j,u⟩,h5,rfl,⟨rfl,h0⟩,h7⟩:=hp.inv;simp only[XV]at h;split at h
  .rename_i off size h4;rw[Bj]at h;by_cases hs:v.cells.length=size
   .rw[if_pos hs]at h;split at h
    .rename_i r h3;obtain⟨s1,s2,s3⟩:=Jt _ _ _ _ h3;have hl:=hc.1;have h6:=h0.1;simp only[Array.length_toList]at hl h6;have hF:=Alf off u.cells.toList 0 cs (by simp;omega);have Q:F2 R r ((u.cells.toList.zipIdx).foldl (λ(cs:Array Value) p=>cs.setIfInBounds (off+p.2) p.1) cs).toList:=by
      refine⟨(by rw[s1,hl];exact hF.1.symm),λq x y hx hy=>?_⟩;rw[s3 q]at hx;rw[Array.getElem?_toList,hF.2 q]at hy;by_cases hq:off<=q/\q<off+v.cells.length
      .rw[if_pos hq]at hx;rw[if_pos (by simp;omega)]at hy;exact h0.2 _ x y hx (by simpa using hy)
      .rw[if_neg hq]at hx;rw[if_neg (by simp;omega)]at hy;exact hc.2 q x y hx (by simpa using hy)
     obtain⟨F,h1,h2⟩:=SU ps h5 r _ k Q h7 h;refine⟨F,?_,h2⟩;simp only[Instr.fill,h4];rw[if_neg (by simp;omega)];rw[<-h1];congr 1;rw[<-Array.foldl_toList];simp
    .simp at h
   .rw[if_neg hs]at h;simp at h
  .simp at h
def Aba{P:Program}(ok:SigOK P G){e:Nat}:∀(n:Nat) (cs:List<|Cv G.T) (l:List<|G.T e),Cf G e n cs=A l->
  l.length=n/\cs.length=n*G.sz e/\∀(i j:Nat) x,l[i]?=A x->j<(G.enc e x).length->(G.enc e x)[j]?=cs[i*G.sz e+j]?
 |0,[],l,h=>by simp[Cf]at h;subst h;simp
 |0,_::_,l,h=>by simp[Cf]at h
 |n+1,cs,l,h=>by
  simp only[Cf]at h;split at h
  .rename_i a b Q r;split at h
   .rename_i x F hx hl;simp at h;subst h;obtain⟨t1,t2,t3⟩:=YN _ _ _ Q;obtain⟨d1,R⟩:=XN _ _ _ r;obtain⟨r1,r2,D⟩:=Aba ok n b F hl;have u:=ok.encdec _ _ _ hx;refine⟨by simp[r1],by rw[a5_];omega,λi j y k p=>?_⟩;cases i with
    |zero=>simp at k;subst k;rw[u]at p|-;rw[t3 j ω];simp
    |succ i=>simp at k;rw[D i j y k p,R];congr 1;rw[a5_];omega
   .simp at h
  .simp at h
section
variable{P:Program}{ν:Nat->Option Value}{S B:Nat->Prop}{h:Nat->Option (W G.T)}{w:World}{ρ:Operand->Value}{o:Oper}
variable(ok:SigOK P G){ev:Operand->Option (Sv G.T)}(hev:∀x s,ev x=A s->Rs G ν S w.heap s (ρ x))(hr:HRel G ν S B h w)(hB:∀b,w.heap.size<=b->B b)
 {cf:Ch G}{nm:Nat}{out:O G}(hfresh:∀n∈out.nw,ν n=C)
include hev
theorem Aa1{l:List<|Nat×Operand}{ys:List<|Nat×Pv G.T}(r:F2 (λx y=>x.1=y.1/\ev x.2=A (.p y.2)) l ys) :
  F2 (λ(p:Nat×Pv G.T) (q:Nat×Value)=>p.1=q.1/\F2 (Rc G ν S w.heap) p.2.cells q.2.cells.toList) ys (l.map λp=>(p.1,ρ p.2)):=by
 refine⟨by simp[r.1],λi y q D hq=>?_⟩;rw[X_]at hq;cases k:l[i]? with
 |none=>simp[k]at hq
 |some x=>simp[k]at hq;subst hq;obtain⟨h1,u⟩:=r.2 i x y k D;exact⟨h1.symm,UG<|UF hev u⟩
omit hev in
include ok in
theorem Amm(r:z.cells.toList=G.zero t):F2 (Rc G ν S w.heap) (Gb G t) z.cells.toList:=by rw[r,Gb];exact F2.map_left ⟨rfl,λi x y p k=>by rw[p]at k;simp at k;subst k;exact .sc _<|ok.zsc t x<|o_ p⟩
include hr ok
theorem Awe(ho:o.op=.build t parts)(p:Rj ev t parts.toList (O G) A=A out):Z P G ρ o ν S B h w out:=by
 unfold Rj at p;cases R:G.ty t with
 |st fs=>
  simp only[R]at p;obtain⟨ps,h1,D⟩:=Vi p;obtain⟨cs,F,h2⟩:=V h1;simp[J]at h2;subst h2;obtain⟨k,hu,h3,h4⟩:=ok.strc t fs R;obtain⟨z,hz,Q⟩:=ok.zeroV w (show G.ty t≠ .no by rw[R];simp);obtain⟨u,hf,hF⟩:=SU ps _ (Gb G t) z.cells cs (Amm ok Q) (Aa1 hev D) F;refine aE hr (v:=.agg u.toList.toArray) ?_<|.agg _ _ hF;have h5:∀(l:List Field) (w:World),(∀f∈l,G.ty f.type≠ .no)->(l.mapM (λf=>(do pure (f.offset,<-sizeOf f.type):Sem<|Nat×Nat))).run P w=.ok (l.map λf=>(f.offset,G.sz f.type)) w:=by
   intro l;induction l with
   |nil=>intro w _;rfl
   |cons f l ih=>intro w hl;simp only[List.mapM_cons,M_,ok.sizeOf w<|hl f σ,u_,a7_,ih w (λg hg=>hl g (by simp[hg])),List.map_cons]
  have h0:∀f∈k.toList,G.ty f.type≠ .no:=by intro f r;refine h4 f.offset f.type ?_;rw[<-h3];exact b3_.2 ⟨f,r,rfl⟩
  have hM:(k.mapM (λf=>(do pure (f.offset,<-sizeOf f.type):Sem<|Nat×Nat))).run P w=.ok (k.toList.map λf=>(f.offset,G.sz f.type)).toArray w:=by rw[Array.mapM_eq_mapM_toList];simp only[Sem.run_map,h5 _ w h0,u_]
  have y:(λi=>(k.toList.map λf=>(f.offset,G.sz f.type)).toArray[i]?)=Ahk G fs:=by funext i;rw[<-h3];unfold Ahk;rw[X_];simp;cases k[i]?<;>rfl
  unfold execOp;rw[ho];simp only[Instr.build,M_,hz,u_,N_ hu w,hM,y];have r:Instr.fill (Ahk G fs) z.cells (parts.map λ(i,x)=>(i,ρ x)).toList=A u:=by rw[g4_];exact hf
  rw[r];simp
 |arr n e=>
  simp only[R]at p;obtain⟨ps,h1,D⟩:=Vi p;obtain⟨cs,F,h2⟩:=V h1;simp[J]at h2;subst h2;obtain⟨hu,he⟩:=ok.arr t n e R;obtain⟨z,hz,Q⟩:=ok.zeroV w (show G.ty t≠ .no by rw[R];simp);obtain⟨u,hf,hF⟩:=SU ps _ (Gb G t) z.cells cs (Amm ok Q) (Aa1 hev D) F;refine aE hr (v:=.agg u.toList.toArray) ?_<|.agg _ _ hF;unfold execOp;rw[ho];have r:Instr.fill (λi=>A (i*G.sz e,G.sz e)) z.cells (parts.map λ(i,x)=>(i,ρ x)).toList=A u:=by rw[g4_];exact hf
  simp only[Instr.build,M_,hz,u_,N_ hu w,ok.sizeOf w he];rw[r];simp
 |_=>simp[R,I]at p
omit hev hr
theorem Bkr{n:Nat}{cs:List<|Cv G.T}{l:List<|G.T e}(F:Cf G e n cs=A l){c:Array Value}(r:F2 (Rc G ν S hh) cs c.toList):Bmt G S hh e l c:=by intro i j x cv Q k;obtain⟨r1,R,D⟩:=Aba ok n cs l F;have y:j<(G.enc e x).length:=(f_.1 k).1;have h1:=D i j x Q y;rw[k]at h1;obtain⟨v,u,p⟩:=r.get h1.symm;exact⟨v,by simpa using u,Arr ok (o_ k) p⟩
theorem Ail(hz:z.cells.toList=G.zero e)(r:0<G.sz e):∀n,F2 (Rc G ν S hh) (PJ G e n) (((aG<|n*G.sz e).map (z.cells[· %z.cells.size]!))).toList:=by
 have D:z.cells.size=G.sz e:=by rw[<-ok.zlen e,<-hz];simp
 have k:∀n,(PJ G e n).length=n*G.sz e:=by
  intro n;induction n with
  |zero=>simp[PJ]
  |succ n ih=>simp[PJ,ih,Gb,ok.zlen e,a5_];omega
 have u:∀n j,j<n*G.sz e->(PJ G e n)[j]?=(G.zero e)[j%G.sz e]?.map .sc:=by
  intro n;induction n with
  |zero=>intro j Q;omega
  |succ n ih=>
   intro j Q;rw[PJ,g0_];have h2:(Gb G e).length=G.sz e:=by simp[Gb,ok.zlen e]
   by_cases h0:j<G.sz e
   .rw[if_pos ω,g1_ h0];simp[Gb]
   .have R:=Nat.succ_mul n<|G.sz e;have h1:j-G.sz e<n*G.sz e:=by rw[Nat.succ_eq_add_one]at R;omega
    rw[if_neg ω,h2,ih (j-G.sz e) h1];rw[Nat.mod_eq_sub_mod (a:=j) ω]
 intro n;refine⟨by simp[k n],λj x y F hy=>?_⟩;have Q:j<n*G.sz e:=by have:=(f_.1 F).1;rw[k]at this;exact this
 rw[u n j Q]at F;have hm:j%G.sz e<G.sz e:=f9_ _ r;have p:(G.zero e)[j%G.sz e]?=A z.cells[j%z.cells.size]!:=by rw[<-hz,D];simp[D,hm]
 rw[p]at F;simp at F;subst F;simp[Q]at hy;subst hy;exact .sc _<|ok.zsc e _<|o_ p
include hev hr hB hfresh
theorem Af3{len:Nat}(ho:o.op=.buildSlice t len parts)(u:Ew ev h nm t len parts.toList (O G) A=A out):Z P G ρ o ν S B h w out:=by
 unfold Ew at u;cases ht:G.ty t with
 |sl e=>
  simp only[ht]at u;obtain⟨ps,h1,hd⟩:=Vi u;obtain⟨y,h2⟩:=L h1;obtain⟨cs,hg,Q⟩:=V h2;obtain⟨hu,he,⟨i,hi,hk⟩,_⟩:=ok.sl t e ht;obtain⟨z,hz,hj⟩:=ok.zeroV w he;have h6:=ok.pos _ he;obtain⟨r,hf,h7⟩:=SU ps _ (PJ G e len) _ cs (Ail ok hj h6 len) (Aa1 hev hd) hg;simp only[a_]at y;have hp:len*G.sz e<=16777216:=C_ y.2;have hn:len<=65536:=C_ y.1;have F:(execOp ρ o).run P w=.ok (.value<|.slice (A ⟨w.heap.size,0,C⟩) len len) { w with heap:=w.heap.push (.cells r e) }:=by
   unfold execOp;rw[ho];simp only[Instr.buildSlice,M_,N_ hu w,u_,ok.sizeOf w he];rw[if_neg (ω:¬(len*G.sz e>2^24))];have h9:Instr.fill (λi=>A (i*G.sz e,G.sz e)) ((aG<|len*G.sz e).map (z.cells[· %z.cells.size]!)) (parts.map λ(i,x)=>(i,ρ x)).toList=A r:=by rw[g4_];exact hf
   by_cases h0:len*G.sz e=0
   .have hb:(aG<|len*G.sz e).map ((#[]:Array Value)[· %(#[]:Array Value).size]!)=(aG<|len*G.sz e).map (z.cells[· %z.cells.size]!):=by simp[h0]
    rw[if_pos h0];simp only[M_,a7_,u_];rw[hb,h9];simp[newRow]
   .rw[if_neg h0];simp only[M_,hz,a7_,u_];rw[h9];simp[newRow]
  unfold Xf at Q;cases h8:Aah (G.ty e)with
  |true=>
  rw[h8]at Q;obtain⟨hc,h4⟩:=L Q;simp[J]at h4;subst h4;have D:=hfresh nm σ;refine⟨.value<|.slice (A ⟨w.heap.size,0,C⟩) len len,{ w with heap:=w.heap.push (.cells r e) },_,ext ν nm<|.pointer<|A ⟨w.heap.size,0,C⟩,S,F,.inl rfl,?_⟩;refine Post.alloc (k:=.cells cs) (c:=r) (te:=e) (w':={ w with heap:=w.heap.push (.cells r e) }) hr hB D rfl rfl rfl rfl ⟨rfl,rfl,rfl⟩ ⟨w.heap.size,r,e,DT,σ,?_,λm t' hm=>(Aax hc hm).elim⟩ λs R=>?_
  .exact h7.mono λ_ _=>Rc.mono<|Ajt _ hr D
  .simp at R;subst R;exact .p _ _<|.one _ _ ⟨w.heap.size,DT,rfl⟩
  |false=>
  rw[h8]at Q;obtain⟨q,hq,Q⟩:=V Q;obtain⟨l,hl,h4⟩:=V Q;simp[J]at h4;subst h4;have h5:=hr.frz q.2;have hF:=Aad hr hq (λ_ h=>h) h7;obtain⟨r1,r2,r3⟩:=Aba ok len q.1 l hl;have ha:r.size=len*G.sz e:=by have:=hF.1;simp at this;omega
  have D:=hfresh nm σ;refine⟨.value<|.slice (A ⟨w.heap.size,0,C⟩) len len,{ w with heap:=w.heap.push (.cells r e) },_,ext ν nm<|.slice (A ⟨w.heap.size,0,C⟩) len len,Us ν S h q.2,F,.inl rfl,?_⟩
  .have hx:ext ν nm (.slice (A ⟨w.heap.size,0,C⟩) len len) nm=A (.slice (A ⟨w.heap.size,0,C⟩) l.length len):=by rw[DT,r1]
   rw[Adu];refine Post.frz (fz:=q.2) (out1:=⟨A<|.p<|.one<|.own nm,[(nm,A<|.row e l)],[nm],q.2⟩) hr rfl rfl (Post.alloc (k:=.row e l) (c:=r) (te:=e) (w':={ w with heap:=w.heap.push (.cells r e) }) (out:=⟨A<|.p<|.one<|.own nm,[(nm,A<|.row e l)],[nm],q.2⟩) h5 hB D rfl rfl rfl rfl ⟨rfl,rfl,rfl⟩
    (.inr ⟨w.heap.size,len,r,e,hx,σ,ω,ha,?_,rfl,by unfold maxLen;omega⟩) λs R=>?_)
   .exact Bkr ok (ν:=ext ν nm<|.slice (A ⟨w.heap.size,0,C⟩) len len) hl (hF.mono λ_ _=>Rc.mono<|Ajt _ h5 D)
   .simp at R;subst R;exact .p _ _<|.one _ _ ⟨_,_,_,DT,rfl⟩
 |_=>simp[ht,I]at u
theorem Ajx{x y:Operand}(ho:o.op=.makeSlice t x y)(r:Ja ev nm t x y (O G) A=A out):Z P G ρ o ν S B h w out:=by
 unfold Ja at r;cases ht:G.ty t with
 |sl e=>
  simp only[ht]at r;obtain⟨kn,n,hn,h1⟩:=Ae r;obtain⟨km,m,hm,h2⟩:=Ae h1;obtain⟨hb,h3⟩:=L h2;obtain⟨z,hz,h4⟩:=V h3;simp[J]at h4;subst h4;obtain⟨hu,he,⟨i,hi,hy⟩,_⟩:=ok.sl t e ht;obtain⟨i',zv,h0,hp,hk,h5⟩:=ok.info e he;rw[hi]at h0;simp at h0;subst h0;have ha:=ok.pos _ he;simp[Aq0]at hb;obtain⟨⟨hg,hl⟩,h9⟩:=hb;have hw:m<=2147483648:=j_ h9;have h8:=(Ff hev hn).1;have h7:=(Ff hev hm).1;have F:(i.bytes:Int)*m<=281474976710656:=by have h1:(i.bytes:Int)*m<=4096*m:=Int.mul_le_mul_of_nonneg_right ω ω;omega
  have Q:=run_make (P:=P) w t e i zv hu hi hk kn km n m hg hl F ω;have hf:=hfresh nm σ;rw[hp]at Q;refine⟨.value<|.slice (A ⟨w.heap.size,0,C⟩) n.toNat m.toNat,w.alloc<|.cells (madeCells zv.cells<|m.toNat*G.sz e) e,_,ext ν nm<|.slice (A ⟨w.heap.size,0,C⟩) n.toNat m.toNat,S,?_,.inl rfl,?_⟩
  .unfold execOp;rw[ho];simp[h8,h7,Q]
  .have hx:ext ν nm (.slice (A ⟨w.heap.size,0,C⟩) n.toNat m.toNat) nm=A (.slice (A ⟨w.heap.size,0,C⟩) (List.replicate n.toNat z).length m.toNat):=by rw[DT];simp
   refine Post.alloc (k:=.row e<|List.replicate n.toNat z) (c:=madeCells zv.cells<|m.toNat*G.sz e) (te:=e) (w':=w.alloc<|.cells (madeCells zv.cells<|m.toNat*G.sz e) e) hr hB hf rfl rfl rfl rfl ⟨rfl,rfl,rfl⟩
    (.inr ⟨w.heap.size,m.toNat,madeCells zv.cells<|m.toNat*G.sz e,e,hx,σ,by simp;omega,by simp[madeCells],?_,rfl,by unfold maxLen;omega⟩) λs hs=>?_
   .have hv:=Ail ok (ν:=ν) (S:=S) (hh:=w.heap.push<|.cells (madeCells zv.cells<|m.toNat*G.sz e) e) h5 ha m.toNat;intro q j x cv R u;have hq:q<n.toNat:=by have:=(f_.1 R).1;simpa using this
    simp[hq]at R;subst R;rw[ok.encdec _ _ _ hz]at u;have hj:j<G.sz e:=by have:=(f_.1 u).1;simpa[Gb,ok.zlen e]using this
    have h6:zv.cells.size=G.sz e:=by rw[<-ok.zlen e,<-h5];simp
    simp[Gb]at u;obtain⟨v0,D,rfl⟩:=u;refine⟨v0,?_,.sc _<|ok.zsc e _<|o_ D⟩;have hd:q*G.sz e+j<m.toNat*G.sz e:=by
     have:(q+1)*G.sz e<=m.toNat*G.sz e:=K_ _ ω
     rw[a5_]at this;omega
    have hc:(q*G.sz e+j)%G.sz e=j:=by rw[e9_,Nat.mul_add_mod,g1_ hj]
    rw[<-h5]at D;simp[madeCells,hd,h6,hc];simp[h6,hj]at D;simp[D,h6,hj]
   .simp at hs;subst hs;exact .p _ _<|.one _ _ ⟨_,_,_,DT,rfl⟩
 |_=>simp[ht,I]at r
end
section
variable{P:Program}{ν:Nat->Option Value}{S B:Nat->Prop}{h:Nat->Option (W G.T)}{w:World}{ρ:Operand->Value}{o:Oper}
variable(ok:SigOK P G){ev:Operand->Option (Sv G.T)}(hev:∀x s,ev x=A s->Rs G ν S w.heap s (ρ x))(hr:HRel G ν S B h w){out:O G}
include ok hev hr
theorem Ayl{x y:Operand}(ho:o.op=.store t x y)(k:LY ev h t x y (O G) A=A out):Z P G ρ o ν S B h w out:=by
 unfold LY at k;obtain⟨c,hc,k⟩:=aB k;obtain⟨x',r,k⟩:=SJ k;obtain⟨p,k⟩:=L k;have h7:RI h c x'.cells (O G) A=A out->Z P G ρ o ν S B h w out:=At3 ok hev hr ho hc r p;cases c with
 |pr m tt i off=>
  unfold Abh at k;obtain⟨q,hq,k⟩:=V k;obtain⟨Q,k⟩:=L k;obtain⟨⟨n,k'⟩,hp,k⟩:=V k;simp[J]at k;subst k;have h5:m∉q.2:=λhm=>by rw[(ES q.2 m).2 hm]at Q;simp at Q
  have h2:=hr.frz q.2;have h0:=Aad hr hq (λ_ h=>h)<|UG<|UF hev r;have h6:Kd (By h<|MK q.2) q.1 (.pr m tt i off)=A (n,k'):=by rw[<-hp];simp only[Kd];rw[Oh,if_neg h5]
  have h3:Rc G ν (Us ν S h q.2) w.heap (.pr m tt i off)<|ρ x:=Hk hev hc;obtain⟨b,h8,w',xx,hv,R,hn,D,hb,⟨c',te,hw⟩,F⟩:=Ahn ok h2 h3 h0 h6;have u:(ρ y).cells.size=G.sz t:=by
   have:=(UG<|UF hev r).1
   simp at p;rw[p.1]at this;simpa using this.symm
  have h4:G.ty t≠ .no:=by intro e;simp[e,Oc]at p
  refine⟨.skip,w',undef,ν,Us ν S h q.2,?_,.inr ⟨rfl,rfl⟩,?_⟩
  .unfold execOp;rw[ho];simp only[Instr.storeAt,hv,Instr.sureAddr,storeVar,M_,a7_,u_,ok.sizeOf w h4,u];simp[R]
  .rw[Adu];exact Post.frz (fz:=q.2) (out1:=⟨C,[(n,A k')],[],[]⟩) hr rfl rfl ⟨λ_ _ h=>h,λ_ h=>.inl h,λ_ h=>h,λ_ h=>.inl h,F,λs hs=>by simp at hs,by rw[hw.size];exact q_ _,
    λb' h9 h1=>hw.there b' (λe=>h1 n xx hn D<|e▸hb),hw.env⟩
 |_=>exact h7 k
end
end Go.Ab
namespace Go.Ab
variable{G:Sig}
variable{xs:Array Operand}{b:Builtin}{x:Operand}{t:Nat}{i:TypeInfo}{v:Value}
def Agq:∀(ns:List Int) (s:ByteArray),ns.foldl (λr n=>r.push<|UInt8.ofNat n.toNat) s=⟨s.data++(ns.map λn=>UInt8.ofNat n.toNat).toArray⟩
 |[],s=>by simp
 |n::ns,s=>by rw[List.foldl_cons,Agq ns];apply ByteArray.ext;simp[ByteArray.push]
def Bqo{P:Program}{e:Nat}(ok:SigOK P G)(p:Ae0 ((G.enc e<|G.dfl e).map u8C)=N)(x:G.T e):∃n,G.enc e x=[.sc<|.int .u8 n]:=by
 rw[ok.u8d e (G.dfl e) x]at p;generalize G.enc e x=cs at p
 match cs,p with
 |[c],p=>
  simp only[List.map_cons,List.map_nil]at p;cases c with
  |sc v=>
   cases v with
   |int k n=>cases k<;>first|exact⟨_,rfl⟩|simp[Ae0,u8C]at p
   |_=>simp[Ae0,u8C]at p
  |_=>simp[Ae0,u8C]at p
 |[],p=>simp[Ae0]at p
 |_::_::_,p=>simp[Ae0]at p
section
variable{P:Program}{ν:Nat->Option Value}{S B:Nat->Prop}{h:Nat->Option (W G.T)}{w:World}{ρ:Operand->Value}{o:Oper}
variable(ok:SigOK P G){ev:Operand->Option (Sv G.T)}(hev:∀x s,ev x=A s->Rs G ν S w.heap s (ρ x))(hr:HRel G ν S B h w)(hB:∀b,w.heap.size<=b->B b)
 {cf:Ch G}{nm:Nat}{out:O G}(hfresh:∀n∈out.nw,ν n=C)
theorem SP{p:Nat}{l:List<|G.T t}{r:List<|G.T p}(k:Po G t p l=A r):∃e:t=p,r=e▸l:=by
 unfold Po at k;split at k
 .rename_i e;simp at k;exact⟨e,k.symm⟩
 .simp at k
include ok hr in
theorem Nj{e:Nat}(ht:G.ty t=.sl e){c:Cv G.T}{l:List<|G.T e}(R:Il h e c=A l)(hv:Rc G ν S w.heap c v):
  ∃a p,v=.slice a l.length p/\(a=C->l=[])/\∃vs:List Value,vs.length=l.length*G.sz e/\(∀a',a=A a'->∀(j:Nat) u,vs[j]?=A u->w.cell? (a'.add j)=A u)/\
   (∀u∈vs,u.oneCell'=N)/\∀(i j:Nat) x cv,l[i]?=A x->(G.enc e x)[j]?=A cv->∃u,vs[i*G.sz e+j]?=A u/\Rd G S w.heap cv u:=by
 have h0:=(ok.sl t e ht).2.2.2;have y:=ok.pos _ (ok.sl t e ht).2.1;unfold Il at R;split at R
 .simp at R;subst R;have h8:Rd G S w.heap (.sc<|.slice C 0 0) v:=hv;cases h8;exact⟨C,0,rfl,λ_=>rfl,[],σ,σ,σ,σ⟩
 .rename_i n;split at R
  .rename_i k l0 hn;obtain⟨rfl,rfl⟩:=SP R;obtain⟨a,len,p,he,rfl⟩:=hv;rcases hr.blk n _ hn with⟨h1,h2⟩|⟨b,ho,c,te,h1,h2,h3,h4,h5⟩
   .rw[he]at h1;simp at h1;obtain⟨rfl,rfl,rfl⟩:=h1;subst h2;exact⟨C,0,rfl,λ_=>rfl,[],σ,σ,σ,σ⟩
   .rw[he]at h1;simp at h1;obtain⟨rfl,rfl,rfl⟩:=h1;have hp:l.length*G.sz k<=p*G.sz k:=K_ _ h3;refine⟨_,p,rfl,σ,c.toList.take<|l.length*G.sz k,by simp;omega,?_,?_,?_⟩
    .rintro a' ha j u D;simp at ha;subst ha;have r:j<l.length*G.sz k:=by have:=(f_.1 D).1;simp at this;omega
     rw[B_ r]at D;rw[Ho,m_,d8_ w b j c te (0,0) h2];simpa using D
    .intro u D;obtain⟨j,r,e⟩:=List.getElem_of_mem D;have hf:j<l.length*G.sz k:=by simp at r;omega
     have hi:j/G.sz k<l.length:=Nat.div_lt_of_lt_mul (by rw[e9_];exact hf);have hm:j%G.sz k<(G.enc k l[j/G.sz k]).length:=by rw[h0];exact f9_ _ y
     obtain⟨u',h9,F⟩:=h5.1 (j/G.sz k) (j%G.sz k) _ _ (i_ hi)<|i_ hm;rw[e9_,Nat.div_add_mod]at h9
     have:u=u':=by
      have h6:(c.toList.take<|l.length*G.sz k)[j]?=A u:=by rw[<-e];exact i_ r
      rw[B_ hf]at h6;simp at h6;rw[h6]at h9;simpa using h9
     rw[this];exact Xb F
    .intro i j x cv hx Q;obtain⟨u,D,F⟩:=h5.1 i j x cv hx Q;have hi:i<l.length:=(f_.1 hx).1;have r:j<G.sz k:=by have:=(f_.1 Q).1;rw[h0]at this;exact this
     have:(i+1)*G.sz k<=l.length*G.sz k:=K_ _ ω
     rw[a5_]at this;exact⟨u,by rw[B_ ω];simpa using D,F⟩
  .simp at R
 .rename_i k l0;obtain⟨rfl,rfl⟩:=SP R;have h8:Rd G S w.heap (.ro k l) v:=hv;cases h8 with
  |nil _ a p=>exact⟨a,p,rfl,λ_=>rfl,[],σ,σ,σ,σ⟩
  |ro _ _ b off p c te fz vs hS hb _ hs hc F=>
   have h7:∀j,j<l.length*G.sz k->j/G.sz k<l.length:=λj r=>Nat.div_lt_of_lt_mul (by rw[e9_];exact r);refine⟨_,p,rfl,σ,(List.range<|l.length*G.sz k).map λj=>vs (j/G.sz k)<|j%G.sz k,σ,?_,?_,?_⟩
   .rintro a' ha j u D;simp at ha;subst ha;have r:j<l.length*G.sz k:=by have:=(f_.1 D).1;simpa using this
    simp[r]at D;subst D;rw[Ho,d8_ w b (off+j) c te fz hb];rw[<-hc (j/G.sz k) (j%G.sz k) (h7 j r) (f9_ _ y)];congr 1
    have:=Nat.div_add_mod j<|G.sz k
    rw[e9_]at this;omega
   .intro u D;simp at D;obtain⟨j,r,rfl⟩:=D;have hi:=h7 j r;have hm:j%G.sz k<(G.enc k l[j/G.sz k]).length:=by rw[h0];exact f9_ _ y
    exact Xb<|F _ _ _ _ (i_ hi)<|i_ hm
   .intro i j x cv hx Q;have hi:i<l.length:=(f_.1 hx).1;have r:j<G.sz k:=by have:=(f_.1 Q).1;rw[h0]at this;exact this
    have h6:(i+1)*G.sz k<=l.length*G.sz k:=K_ _ ω;rw[a5_]at h6;have hd:(i*G.sz k+j)/G.sz k=i:=by rw[e9_,Nat.mul_add_div y,Nat.div_eq_of_lt r,d0_]
    have hk:(i*G.sz k+j)%G.sz k=j:=by rw[e9_,Nat.mul_add_mod,g1_ r]
    have hg:i*G.sz k+j<l.length*G.sz k:=ω;exact⟨vs i j,by simp[hg,hd,hk],F i j x cv hx Q⟩
 .simp at R
def Aqo{T:Nat->Type}:List (Cv T)->Int
 |[.sc<|.int _ n]=>n
 |_=>0
theorem Ey{tys:Array TypeId}(r:o.op=.call ⟨.builtin b,xs,tys⟩){s:Sem Value}{w':World}
  (p:∀cs,builtin b tys o.type cs (xs.map ρ)=(do pure<|.value<|<-s)) (k:s.run P w=.ok v w'):(execOp ρ o).run P w=.ok (.value v) w':=by
 unfold execOp;rw[r];simp only[resolve,invoke,M_,a7_,u_,p,k]
omit hev hr ok in
theorem Ak0{dT ty k:TypeId}{w:World}{b off dl dc sl sc:Nat}{a:Option Addr}{c:Array Value}{te:TypeId}{news:List Value}
  (hu:P.underlying dT=A (.slice k)) (R:P.info? k=A i) (hb:w.heap[b]?=A (.cells c te (0,0)))
  (hn:news.length=X sl dl*i.size) (D:∀p,a=A p->∀(j:Nat) v,news[j]?=A v->w.cell? (p.add j)=A v) (u:a=C->news=[]) (r:off+news.length<=c.size) (h1:∀v∈news,v.oneCell'=N) :
  ∃w' y,(Builtin.copy_ #[dT,dT] ty #[.slice (A ⟨b,off,C⟩) dl dc,.slice a sl sc]).run P w=.ok (goInt<|X sl dl) w'/\Wrote w w' b y te/\y.size=c.size/\
   ∀j,y[j]?=if off<=j/\j<off+news.length then news[j-off]? else c[j]?:=by
 obtain⟨w',y,F,hw,Q,hc⟩:=Ke (P:=P) (off:=off) news 0 w c hb (by simpa using r) h1;refine⟨w',y,?_,hw,Q,by simpa using hc⟩;have hl:(Builtin.firstCells i.size (X sl dl)<|.slice a sl sc).run P w=.ok news.toArray w:=by
  cases a with
  |none=>rw[u rfl];simp[Builtin.firstCells]
  |some p=>
   have:=run_loadCells_list (P:=P) w p news<|D p rfl
   rw[hn]at this;simpa[Builtin.firstCells]using this
 simp[Builtin.copy_,N_ hu,Builtin.lenOf,sizeOf,typeInfo,R,hl,F]
include hev hr ok
theorem Bav{y:Operand}{tys:Array TypeId}(ho:o.op=.call ⟨.builtin .copy,xs,tys⟩)(xe:tys.toList=[t,t])(xq:xs.toList=[x,y])
  (F:AK ev h nm .copy tys.toList xs.toList (O G) A=A out):Z P G ρ o ν S B h w out:=by
 rw[xe,xq]at F;have x3:xs=#[x,y]:=by rw[<-e3_ (xs:=xs),xq]
 have h8:tys=#[t,t]:=by rw[<-e3_ (xs:=tys),xe]
 have F:QK ev h t t x y (O G) A=A out:=F;unfold QK at F;cases ht:G.ty t with
 |sl e=>
  simp only[ht]at F;obtain⟨_,h1⟩:=L F;obtain⟨c,hc,h2⟩:=aB h1;obtain⟨c',ya,h3⟩:=aB h2;obtain⟨k,yd,h4⟩:=V h3;obtain⟨hu,he,⟨i,hi,_⟩,y8⟩:=ok.sl t e ht;have xv:i.size=G.sz e:=by obtain⟨i',z,g1,g2,_⟩:=ok.info e he;rw[hi]at g1;cases g1;exact g2
  have yi:=ok.pos _ he;obtain⟨a,xj,hv,xc,vs,xr,xo,xy,xm⟩:=Nj ok hr ht yd<|Hk hev ya;have x4:∀n m:Nat,Ano n m=((X n m:Nat):Int):=by
   intro n m;unfold Ano;cases hb:Nat.ble n m with
   |true=>rw[h_,show X n m=n from d5_<|C_ hb]
   |false=>
    have:m<=n:=by
     rcases f2_ m n with h|h
     .omega
     .rw[e6_ h]at hb;cases hb
    rw[g_,show X n m=m from Nat.min_eq_right this]
  unfold Abw at h4;cases c with
  |own m=>
   simp only at h4;cases hm:h m with
   |none=>simp[hm,I]at h4
   |some blk=>
    cases blk with
    |cells cs=>simp[hm,I]at h4
    |row u l=>
     simp only[hm]at h4;obtain⟨hg,h5⟩:=L h4;obtain⟨y1,xx,h6⟩:=V h5;simp[J]at h6;subst h6;simp only[a_]at hg;obtain rfl:u=e:=AD.1 hg.1;have y0:k=y1:=by obtain⟨_,e⟩:=SP xx;exact e.symm
     subst y0;obtain⟨av,yf,ye,r,_⟩:=Hk hev hc;have h9:h m≠C:=by rw[hm];simp
     rcases hr.blk m _ hm with⟨g1,g2⟩|⟨b,hn,cc,te,g1,g2,g3,g4,g5,g6,g7⟩
     .have x1:=r_<|r.symm.trans g1;subst g2;have h0:(Builtin.copy_ tys o.type<|xs.map ρ).run P w=.ok (goInt<|X k.length 0) w:=by
       have hl:(Builtin.firstCells i.size 0<|.slice a k.length xj).run P w=.ok #[] w:=by
        cases a with
        |none=>simp[Builtin.firstCells]
        |some a'=>
         have:=run_loadCells_list (P:=P) w a' [] σ
         simpa[Builtin.firstCells]using this
       simp[Builtin.copy_,x3,h8,N_ hu,Builtin.lenOf,sizeOf,typeInfo,hi,x1,hv,hl]
      refine⟨.value<|goInt<|X k.length 0,w,_,ν,S,Ey ho (λ_=>rfl) h0,.inl rfl,⟨λ_ _ h=>h,λ_ h=>.inl h,λ_ h=>h,λ_ h=>.inl h,?_,λs hs=>?_,q_ _,λ_ _ _=>rfl,rfl,rfl,rfl⟩⟩
      .have:By h [(m,A<|Blk.row u<|NF ([]:List<|G.T u) k)]=h:=by
        funext q;simp only[By,NF];by_cases hq:q=m
        .subst hq;simp[hm]
        .simp[e4_ hq]
       simp only[this];exact hr
      .simp at hs;subst hs;rw[x4];exact .p _ _<|.one _ _<|.sc _ rfl
     .have x1:=r_<|r.symm.trans g1;rw[x1]at r;subst g6;have hk:X k.length l.length*G.sz te<=hn*G.sz te:=K_ _<|b7_ (Nat.min_le_right _ _) g3;have yj:X k.length l.length*G.sz te<=k.length*G.sz te:=K_ _<|aH _ _;have Q:(vs.take<|X k.length l.length*G.sz te).length=X k.length l.length*G.sz te:=by rw[v_];omega
      obtain⟨w',c2,h0,hw,yc,xf⟩:=Ak0 (P:=P) (dT:=t) (ty:=o.type) (dl:=l.length) (dc:=hn) (sl:=k.length) (sc:=xj) (a:=a) (news:=vs.take<|X k.length l.length*G.sz te) hu hi g2 (off:=0)
       (by rw[Q,xv]) (λa' ha j v hj=>xo a' ha j v (by
        have:=(f_.1 hj).1
        rw[v_]at this;rw[B_ ω]at hj;exact hj)) (λha=>by
        have:k=[]:=xc ha
        apply S_;rw[Q,this];show X 0 l.length*G.sz te=0;rw[show X 0 l.length=0 from Nat.zero_min _,Nat.zero_mul]) (by rw[Q];omega) (λv hv=>xy v<|f0_ hv)
      have hx:AO (Value.slice (A (⟨b,0,C⟩:Addr)) l.length hn)=A b:=rfl;have hS:¬S b:=(hr.own m _ b h9 r hx).1;have le:Le ν ν S S w.heap w'.heap:=⟨λ_ _ h=>h,λ_ h=>h,λb' x2=>hw.there b' (λe=>hS<|e▸x2)⟩
      have xd:(NF l k).length=l.length:=by unfold NF;rw[e_,v_,Y_];omega
      have x6:=hr.wrote h9 r hx hw (k':=.row te<|NF l k)<|.inr ⟨b,hn,c2,te,by rw[r,xd],hw.here,by rw[xd];exact g3,by rw[yc,g4],λi' j x' cv D xi=>?_,rfl,g7⟩
      .refine⟨.value<|goInt<|X k.length l.length,w',_,ν,S,Ey ho (λ_=>rfl) (by rw[x3,h8];simpa[x1,hv]using h0),.inl rfl,⟨λ_ _ h=>h,λ_ h=>.inl h,λ_ h=>h,λ_ h=>.inl h,?_,λs hs=>?_,by rw[hw.size];exact q_ _,λb' x2 x5=>hw.there b' (λe=>x5 m _ h9 r<|e▸hx),hw.env⟩⟩
       .have:By h [(m,A<|Blk.row te<|NF l k)]=λq=>if m=q then A (Blk.row te<|NF l k)else h q:=by
         funext q;simp only[By]
        rw[this];exact x6
       .simp at hs;subst hs;rw[x4];exact .p _ _<|.one _ _<|.sc _ rfl
      .have hj:j<G.sz te:=by have:=(f_.1 xi).1;rw[y8]at this;exact this
       rw[xf,Q];unfold NF at D;by_cases x9:i'<X k.length l.length
       .have yk:i'<k.length:=c3_ x9<|aH _ _;have y4:i'<l.length:=c3_ x9<|Nat.min_le_right _ _;rw[d2_ (by rw[v_];omega),B_ y4]at D;obtain⟨u,x0,x7⟩:=xm i' j x' cv D xi;have hd:i'*G.sz te+j<X k.length l.length*G.sz te:=by
         have:(i'+1)*G.sz te<=X k.length l.length*G.sz te:=K_ _ x9
         rw[a5_]at this;omega
        exact⟨u,by rw[if_pos ⟨Q_ _,ω⟩,Nat.sub_zero,B_ hd];exact x0,x7.mono le.st le.hp⟩
       .have xl:X k.length l.length<=i':=Nat.le_of_not_lt x9;have yb:l[i']?=A x':=by
         rcases Nat.le_total l.length k.length with x8|x8
         .have y7:i'<(k.take l.length++l.drop k.length).length:=(f_.1 D).1;rw[e_,v_,Y_]at y7
          have:X k.length l.length=l.length:=Nat.min_eq_right x8
          rw[this]at xl;omega
         .have:X k.length l.length=k.length:=d5_ x8
          rw[this]at xl;rw[d7_ (by rw[v_];omega),c4_,v_,Nat.min_eq_right x8,show k.length+(i'-k.length)=i' by omega]at D;exact D
        obtain⟨u,x0,x7⟩:=g5 i' j x' cv yb xi;have yg:X k.length l.length*G.sz te<=i'*G.sz te:=K_ _ xl;exact⟨u,by rw[if_neg ω];exact x0,x7.mono le.st le.hp⟩
  |sa m off len=>
   simp only at h4;cases hm:h m with
   |none=>simp[hm,I]at h4
   |some blk=>
    cases blk with
    |row u l=>simp[hm,I]at h4
    |cells cs=>
     simp only[hm]at h4;obtain⟨hg,h5⟩:=L h4;obtain⟨xg,hy,h6⟩:=V h5;obtain⟨y5,h7⟩:=L h6;simp[J]at h7;subst h7;simp only[a_]at hg;have xk:G.sz e=1:=AD.1 hg.1;obtain⟨b,r,x1⟩:=Hk hev hc;have h9:h m≠C:=by rw[hm];simp
     obtain⟨b2,cc,te,g1,g2,g3,g4⟩:=hr.blk m _ hm;rw[r]at g1;cases g1;unfold Bh8 at hy;split at hy
     .rename_i new xb;rw[Xk]at xb;obtain⟨n1,n2⟩:=CH _ _ xb;rw[List.length_range]at n1;obtain⟨s1,s2,s3⟩:=Jt _ _ _ _ hy;have y9:cs.length=cc.size:=by have:=g3.1;simpa using this
      rw[xk,c2_]at xr;have Q:(vs.take<|X k.length len).length=X k.length len:=by rw[v_,xr];exact d5_<|aH _ _
      have x8:X k.length len<=len:=Nat.min_le_right _ _;obtain⟨w',c2,h0,hw,xp,xf⟩:=Ak0 (P:=P) (dT:=t) (ty:=o.type) (dl:=len) (dc:=len) (sl:=k.length) (sc:=xj) (a:=a) (news:=vs.take<|X k.length len) hu hi g2 (off:=off)
       (by rw[Q,xv,xk,c2_]) (λa' ha j v hj=>xo a' ha j v (by
        have:=(f_.1 hj).1
        rw[v_]at this;rw[B_ ω]at hj;exact hj)) (λha=>by
        have:k=[]:=xc ha
        apply S_;rw[Q,this];exact Nat.zero_min _) (by rw[Q];omega) (λv hv=>xy v<|f0_ hv)
      have hx:AO (Value.pointer<|A (⟨b,0,C⟩:Addr))=A b:=rfl;have hS:¬S b:=(hr.own m _ b h9 r hx).1;have le:Le ν ν S S w.heap w'.heap:=⟨λ_ _ h=>h,λ_ h=>h,λb' x2=>hw.there b' (λe=>hS<|e▸x2)⟩
      have x6:=hr.wrote h9 r hx hw (k':=.cells xg) ⟨b,c2,te,r,hw.here,⟨by rw[s1,y9,<-xp];simp,λq x' y' D y2=>?_⟩,λm' t' y3=>(Aax y5 y3).elim⟩
      .refine⟨.value<|goInt<|X k.length len,w',_,ν,S,Ey ho (λ_=>rfl) (by rw[x3,h8];simpa[x1,hv]using h0),.inl rfl,⟨λ_ _ h=>h,λ_ h=>.inl h,λ_ h=>h,λ_ h=>.inl h,?_,λs hs=>?_,by rw[hw.size];exact q_ _,λb' x2 x5=>hw.there b' (λe=>x5 m _ h9 r<|e▸hx),hw.env⟩⟩
       .have:By h [(m,A<|Blk.cells xg)]=λq=>if m=q then A (Blk.cells xg)else h q:=by
         funext q;simp only[By]
        rw[this];exact x6
       .simp at hs;subst hs;rw[x4];exact .p _ _<|.one _ _<|.sc _ rfl
      .rw[s3]at D;have R:c2[q]?=A y':=by simpa using y2
       rw[xf,Q]at R;by_cases hin:off<=q/\q<off+new.length
       .rw[if_pos hin]at D;obtain⟨z,hz,hf⟩:=n2 (q-off) (q-off) (by rw[aI ω]);rw[hz]at D;cases D;split at hf
        .rename_i o0 c0 xw xn;rw[show off+(q-off)=q by omega]at xw;have xa:=Ag2 hf;by_cases hd:q-off<k.length
         .rw[show aF (q-off) k.length=N from e6_<|Nat.succ_le_of_lt hd,if_pos rfl]at xa;rw[if_pos ⟨hin.1,by have:q-off<X k.length len:=Nat.lt_min.2 ⟨hd,ω⟩;omega⟩]at R;have xz:k[q-off]?=A (k.getD (q-off)<|G.dfl e):=by rw[k_,i_ hd];rfl
          obtain⟨u,x0,x7⟩:=xm (q-off) 0 _ c0 xz (by rw[xn];rfl);rw[xk,c2_,d0_]at x0;rw[B_<|Nat.lt_min.2 ⟨hd,ω⟩,x0]at R;cases R;rw[xa];exact(Akd ok (t:=e) (x:=k.getD (q-off)<|G.dfl e) (by rw[xn];simp)<|x7.mono le.st le.hp)
         .rw[show aF (q-off) k.length=false from by
           cases y6:aF (q-off) k.length with
           |false=>rfl
           |true=>exact absurd (C_ y6) hd,if_neg σ]at xa
          have:X k.length len<=k.length:=aH _ _
          rw[if_neg ω]at R;rw[xa];exact(g3.2 q o0 y' xw (by simpa using R)).mono le
        .cases hf
       .rw[if_neg hin]at D;rw[if_neg ω]at R;exact(g3.2 q x' y' D (by simpa using R)).mono le
     .cases hy
  |_=>simp[I]at h4
 |_=>simp[ht,I]at F
theorem Bfw{tys:Array TypeId}(ho:o.op=.call ⟨.builtin .len,xs,tys⟩)(Q:∃ts,tys.toList=t::ts)(D:xs.toList=[x])
  (k:AK ev h nm .len tys.toList xs.toList (O G) A=A out):Z P G ρ o ν S B h w out:=by
 obtain⟨ts,F⟩:=Q;rw[F,D]at k;have u:xs=#[x]:=by rw[<-e3_ (xs:=xs),D]
 have r:tys[0]?=A t:=by rw[<-Array.getElem?_toList,F];rfl
 have go:∀n:Nat,(Builtin.len_ tys o.type<|xs.map ρ).run P w=.ok (goInt n) w->Z P G ρ o ν S B h w (outV<|.int .i64 n):=by intro n hn;exact aA hr (Ey ho (λ_=>rfl) hn) rfl
 cases y:G.ty t with
 |str=>
  simp only[AK,VZ,y]at k;obtain⟨c,R,h1⟩:=aB k;cases c with
  |sc v=>
   cases v with
   |string s=>simp[J]at h1;subst h1;refine go _ ?_;simp[Builtin.len_,r,u,N_<|ok.str t y,(Ff hev R).1]
   |_=>simp[I]at h1
  |_=>simp[I]at h1
 |arr n e=>simp only[AK,VZ,y]at k;simp[J]at k;subst k;refine go _ ?_;simp[Builtin.len_,r,u,N_ (ok.arr t n e y).1]
 |sl e=>
  simp only[AK,VZ,y]at k;obtain⟨c,R,h1⟩:=aB k;have h0:M.bind (M.opt<|Il h e c) (λl=>J (⟨A<|.p<|.one<|.sc<|.int .i64 (l.length:Int),[],[],c.rds⟩:O G)) (O G) A=A out->Z P G ρ o ν S B h w out:=λh1=>by
   obtain⟨l,hl,h2⟩:=V h1;simp[J]at h2;subst h2;obtain⟨a,h3,hv,_⟩:=Nj ok hr y hl<|Hk hev R;refine Runs.value hr rfl (Ey ho (λ_=>rfl) (v:=goInt l.length) ?_) λs hs=>?_
   .simp[Builtin.len_,r,u,N_ (ok.sl t e y).1,hv]
   .simp at hs;subst hs;exact .p _ _<|.one _ _<|.sc _ rfl
  cases c with
  |sa n off len=>simp[Aq1,J]at h1;subst h1;obtain⟨b,_,hv⟩:=Hk hev R;refine go _ ?_;simp[Builtin.len_,r,u,N_ (ok.sl t e y).1,hv]
  |_=>exact h0 h1
 |_=>simp[AK,VZ,y,I]at k
theorem Bau{s:Nat}(ho:o.op=.convert s t x)(Q:Pj ev h s t x (O G) A=A out):Z P G ρ o ν S B h w out:=by
 unfold Pj at Q;obtain⟨hs,h0⟩:=L Q;obtain⟨c,hc,h1⟩:=aB h0;cases F:G.ty s with
 |sl e=>
  rw[F]at h1;simp only at h1;cases r:Ag1 (G.ty t)with
  |false=>rw[r]at h1;exact Af9 ok hev hr ho hs hc h1
  |true=>
   rw[r,h_]at h1;obtain⟨hg,h2⟩:=L h1;obtain⟨l,hl,h3⟩:=V h2;simp[J]at h3;subst h3;rw[a_]at hg;have ha:P.underlying e=A (.int .u8):=by
    have:=hg.1
    unfold Bon at this;split at this
    .rename_i k;exact ok.int e .u8 k
    .simp at this
   have k:P.underlying t=A .string:=by
    unfold Ag1 at r;split at r
    .rename_i k;exact ok.str t k
    .simp at r
   have y:=Bqo (G:=G) ok hg.2;have R:G.sz e=1:=by have h1:=(ok.sl s e F).2.2.2<|G.dfl e;obtain⟨n,hn⟩:=y<|G.dfl e;rw[hn]at h1;simpa using h1.symm
   obtain⟨a,h4,hv,h7,vs,h6,h5,_,h8⟩:=Nj ok hr F hl<|Hk hev hc;have h9:=(ok.sl s e F).1;refine Runs.value hr rfl (v:=.string<|Xi G e l) ?_ λs hs=>?_
   .unfold execOp;rw[ho];simp only[hv,M_];cases a with
    |none=>obtain rfl:=h7 rfl;rw[run_convert_bytes_string w s t e C _ h4 h9 ha k];simp[Conv.bytesToString,Xi];rfl
    |some a=>
     have hd:vs=(l.map λx=>Aqo<|G.enc e x).map (Value.int .u8):=by
      apply List.ext_getElem?;intro i;rw[List.map_map,X_];cases hi:l[i]? with
      |none=>rw[List.getElem?_eq_none_iff]at hi;simp only[aJ];rw[List.getElem?_eq_none_iff];rw[h6,R];omega
      |some x=>obtain⟨n,hn⟩:=y x;obtain⟨u,hu,hb⟩:=h8 i 0 x _ hi (by rw[hn];rfl);rw[R,c2_,d0_]at hu;rw[hu];cases hb;simp[hn,Aqo]
     have D:=run_loadCells_list (P:=P) w a vs (λj u hj=>h5 a rfl j u hj);rw[h6,R,c2_,hd]at D;rw[run_convert_bytes_string w s t e (A a) _ h4 h9 ha k,run_bytesToString w a l.length h4 (l.map λx=>Aqo<|G.enc e x) D,Agq];simp only[Xi,List.map_map];have e1:(λn:Int=>UInt8.ofNat n.toNat)∘(λx=>Aqo<|G.enc e x)=λx=>Abq<|G.enc e x:=by funext x;obtain⟨n,hn⟩:=y x;simp[hn,Aqo,Abq]
     rw[e1,show ByteArray.empty.data=(#[]:Array UInt8)from rfl,Array.empty_append];rfl
   .simp at hs;subst hs;exact .p _ _<|.one _ _<|.sc _ rfl
 |_=>rw[F]at h1;exact Af9 ok hev hr ho hs hc h1
omit ok
theorem Adf{y:Operand}{tys:Array TypeId}(hb:b=.min\/b=.max)(ho:o.op=.call ⟨.builtin b,xs,tys⟩)(u:xs.toList=[x,y])
  (p:AK ev h nm b tys.toList xs.toList (O G) A=A out):Z P G ρ o ν S B h w out:=by
 rw[u]at p;have r:xs=#[x,y]:=by rw[<-e3_ (xs:=xs),u]
 rcases hb with rfl|rfl
 .simp only[AK,Av7]at p;obtain⟨k,m,R,h1⟩:=Ae p;obtain⟨k',n,Q,h2⟩:=Ae h1;obtain⟨F,D⟩:=L h2;have e:=He F;simp at e;subst e;simp[J]at D;subst D;refine aA hr (Ey ho (λ_=>rfl) ?_) rfl;simp[Builtin.min_,r,(Ff hev R).1,(Ff hev Q).1,Builtin.min2]
 .simp only[AK,Av6]at p;obtain⟨k,m,R,h1⟩:=Ae p;obtain⟨k',n,Q,h2⟩:=Ae h1;obtain⟨F,D⟩:=L h2;have e:=He F;simp at e;subst e;simp[J]at D;subst D;refine aA hr (Ey ho (λ_=>rfl) ?_) rfl;simp[Builtin.max_,r,(Ff hev R).1,(Ff hev Q).1,Builtin.max2]
theorem Aau{y z:Operand}{tys:Array TypeId}(hb:b=.min\/b=.max)(ho:o.op=.call ⟨.builtin b,xs,tys⟩)(R:xs.toList=[x,y,z])
  (r:AK ev h nm b tys.toList xs.toList (O G) A=A out):Z P G ρ o ν S B h w out:=by
 rw[R]at r;have D:xs=#[x,y,z]:=by rw[<-e3_ (xs:=xs),R]
 rcases hb with rfl|rfl
 .simp only[AK,Ani]at r;obtain⟨k,m,hm,h1⟩:=Ae r;obtain⟨k',n,hn,F⟩:=Ae h1;obtain⟨k2,p,hp,F⟩:=Ae F;obtain⟨he,u⟩:=L F;obtain⟨Q,u⟩:=L u;have e:=He he;have e2:=He Q;simp at e e2;subst e;subst e2;simp[J]at u;subst u;refine aA hr (Ey ho (λ_=>rfl) ?_) rfl;simp[Builtin.min_,D,(Ff hev hm).1,(Ff hev hn).1,(Ff hev hp).1,Builtin.min2];by_cases g:n<m<;>simp[g]
 .simp only[AK,Anh]at r;obtain⟨k,m,hm,h1⟩:=Ae r;obtain⟨k',n,hn,F⟩:=Ae h1;obtain⟨k2,p,hp,F⟩:=Ae F;obtain⟨he,u⟩:=L F;obtain⟨Q,u⟩:=L u;have e:=He he;have e2:=He Q;simp at e e2;subst e;subst e2;simp[J]at u;subst u;refine aA hr (Ey ho (λ_=>rfl) ?_) rfl;simp[Builtin.max_,D,(Ff hev hm).1,(Ff hev hn).1,(Ff hev hp).1,Builtin.max2];by_cases g:m<n<;>simp[g]
omit hev hr
theorem Asu{t e:TypeId}(r:P.underlying t=A (.slice e))(u:P.info? e=A i)(ty:TypeId)(a:Option Addr)(n k:Nat)(p:n<=k)(b:Option Addr)(c:Nat):
  (Builtin.append_ #[t,t] ty #[.slice a n k,.slice b 0 c]).run P w=.ok (.slice a n k) w:=by
 cases b<;>cases a<;>simp[Builtin.append_,N_ r,sizeOf,typeInfo,u,Builtin.lenOf,p,Builtin.firstCells,loadCells,loadCellsFrom,storeCells]
def Abz(h:Nat->Option (W G.T))(n0:Option Nat)(m:Nat):Option<|W G.T:=
 match n0 with
 |some n=>if n=m then C else h m
 |none=>h m
include hev hr hB hfresh ok
theorem Asv{y:Operand}{tys:Array TypeId}(ho:o.op=.call ⟨.builtin .append,xs,tys⟩)(xg:tys.toList=[t,t])(xw:xs.toList=[x,y])
  (hp:AK ev h nm .append tys.toList xs.toList (O G) A=A out):Z P G ρ o ν S B h w out:=by
 rw[xg,xw]at hp;have xx:xs=#[x,y]:=by rw[<-e3_ (xs:=xs),xw]
 have xj:tys=#[t,t]:=by rw[<-e3_ (xs:=tys),xg]
 cases ht:G.ty t with
 |sl e=>
  simp only[AK,Lf,ht]at hp;obtain⟨_,h0⟩:=L hp;obtain⟨c,hc,h1⟩:=aB h0;obtain⟨c',yj,h2⟩:=aB h1;obtain⟨l,hl,h3⟩:=V h2;obtain⟨l',yl,h4⟩:=V h3;obtain⟨x2,h5⟩:=L h4;have x2:l.length+l'.length<=2147483648:=C_ x2;obtain⟨hu,he,⟨i,hi,yc⟩,xv⟩:=ok.sl t e ht;obtain⟨i',z,xk,yd,y8,y7⟩:=ok.info e he;rw[hi]at xk;simp at xk;subst xk;have xz:=ok.pos _ he;have ye:z.cells.size=G.sz e:=by rw[<-ok.zlen e,<-y7];simp
  obtain⟨a',xc,xo,xb,xl,x4,y3,y1,y0⟩:=Nj ok hr ht yl<|Hk hev yj;have xd:∀(D:List<|Nat×Option (W G.T)) (n0:Option Nat) (rd:List Nat),out=⟨A<|.p<|.one<|.own nm,D++[(nm,A<|.row e<|l++l')],[nm],rd⟩->
    (D=(match n0 with|some n=>[(n,C)]|none=>[]))->
    (∃(x0:List Value),w.ownsRow 0 e (G.sz e) (ρ x) l.length x0/\(∀(i j:Nat) y cv,l[i]?=A y->(G.enc e y)[j]?=A cv->∃u,x0[i*G.sz e+j]?=A u/\Rd G S w.heap cv u))->
    (∀b,(ρ x).ownBlock=A b->∃n y,n0=A n/\h n≠C/\ν n=A y/\AO y=A b)->(∀n,n0=A n->n≠nm)->Z P G ρ o ν S B h w out:=by
   intro D n0 rd xf hD ⟨x0,h7,y4⟩ hd yq;have xr:ν nm=C:=hfresh nm (by rw[xf];simp);have x5:(l.length+l'.length)*i.bytes<=140737488355328:=by
    have:(l.length+l'.length)*i.bytes<=2147483648*4096:=Nat.mul_le_mul x2 yc
    omega
   have y5:∃v' w',(Builtin.append_ #[t,t] o.type #[ρ x,ρ y]).run P w=.ok v' w'/\w'.ownsRow 0 e (G.sz e) v' (l.length+l'.length) (x0++xl)/\w.grownBy w' (ρ x).ownBlock/\
     (v'.ownBlock=(ρ x).ownBlock\/v'.ownBlock=A w.heap.size):=by
    cases a' with
    |some ad=>obtain⟨v',w',h1,h2,h3,_,h5⟩:=Go.run_append_own_at (P:=P) w 0 t o.type e i z (G.sz e) i.bytes hu hi y8 yd rfl ye xz (ρ x) l.length x0 h7 ad l'.length xc xl x4 (λj u hu=>y3 ad rfl j u hu) y1 (by unfold maxLen;omega) x5<|Q_ _;exact⟨v',w',by rw[xo];exact h1,h2,h3,h5⟩
    |none=>
     have hz:=xb rfl;subst hz;simp at x4;subst x4;have yf:∃a0 hw,ρ x=.slice a0 l.length hw/\l.length<=hw:=by
      rcases h7.2 with⟨h1,h2⟩|⟨g,ha,x7,h1,_,_,h4,_⟩
      .exact⟨C,0,by rw[h1,h2],ω⟩
      .exact⟨_,ha,h1,h4⟩
     obtain⟨a0,hw,y9,xn⟩:=yf;refine⟨ρ x,w,?_,by simpa using h7,⟨rfl,rfl,rfl,q_ _,λ_ _ _=>rfl⟩,.inl rfl⟩;rw[y9,xo];exact Asu hu hi _ a0 _ hw xn C xc
   obtain⟨v',w',yg,xm,x1,ya⟩:=y5;have hf:∀b,b<w.heap.size->(∀y,(ρ x).ownBlock=A y->y≠b)->w'.heap[b]?=w.heap[b]?:=λb R hn=>x1.block b R (λe=>hn b e.symm rfl);have hk:∀b,S b->w'.heap[b]?=w.heap[b]?:=λb R=>hf b (hr.stay b R) λy F e=>by obtain⟨n,y',_,hn,Q,r⟩:=hd y F;subst e;exact(hr.own n y' y hn Q r).1 R
   have xi:Rb G (ext ν nm v') S w'.heap nm<|.row e<|l++l':=by
    have x8:∀(i j:Nat) y cv,(l++l')[i]?=A y->(G.enc e y)[j]?=A cv->∃u,(x0++xl)[i*G.sz e+j]?=A u/\Rd G S w'.heap cv u:=by
     intro i j y cv F h9;have hj:j<G.sz e:=by have:=(f_.1 h9).1;rw[xv]at this;exact this
     rw[g0_]at F;by_cases hi:i<l.length
     .rw[if_pos hi]at F;obtain⟨u,hu,hg⟩:=y4 i j y cv F h9;have h6:(i+1)*G.sz e<=l.length*G.sz e:=K_ _ ω;rw[a5_]at h6;exact⟨u,by rw[d2_ (by rw[h7.1];omega)];exact hu,hg.mono (λ_ h=>h) hk⟩
     .rw[if_neg hi]at F;obtain⟨u,hu,hg⟩:=y0 (i-l.length) j y cv F h9;have h6:i*G.sz e=l.length*G.sz e+(i-l.length)*G.sz e:=by rw[<-a5_];congr 1;omega
      refine⟨u,?_,hg.mono (λ_ h=>h) hk⟩;rw[d7_ (by rw[h7.1];omega),h7.1,show i*G.sz e+j-l.length*G.sz e=(i-l.length)*G.sz e+j by omega];exact hu
    have x3:(l++l').length=l.length+l'.length:=by simp
    rcases xm.2 with⟨g1,g2⟩|⟨g,ha,x7,g1,_,g3,g4,g5,g6,g7⟩
    .refine .inl ⟨by rw[DT,g1],S_ (by rw[x3];exact g2)⟩
    .refine .inr ⟨g,ha,x7,e,by rw[DT,g1,x3],g3,by rw[x3];exact g4,g6,λi j y cv F h9=>?_,rfl,g5⟩;obtain⟨u,hu,hg⟩:=x8 i j y cv F h9;refine⟨u,?_,hg⟩;rw[<-g7]at hu;have yk:i*G.sz e+j<(l.length+l'.length)*G.sz e:=by
      have:=(f_.1 hu).1
      simp at this;omega
     rw[B_ yk]at hu;simpa using hu
   generalize x6:Abz h n0=h';have xe:∀m,h' m≠C->h' m=h m:=by
    intro m hm;subst x6;cases n0 with
    |none=>rfl
    |some n=>
     by_cases e:n=m
     .simp[Abz,e]at hm
     .simp[Abz,e]
   have xy:=hr.sub xe;have h8:∀m y b,h' m≠C->ν m=A y->AO y=A b->(ρ x).ownBlock≠A b:=by
    intro m y b hm F R e;obtain⟨n,y',yb,hn,Q,r⟩:=hd b e
    have:=hr.apart m n y y' b (by rw[<-xe m hm];exact hm) hn F Q R r
    subst this;exact hm (by rw[<-x6];simp[Abz,yb])
   have xp:=xy.add (nm:=nm) (x:=v') (k:=.row e<|l++l') (w':=w') xr (λb R yi=>hf b R λy F e=>by
     subst e;rcases yi with hS|⟨m,y',hm,Q,r⟩
     .obtain⟨n,y',_,hn,Q,r⟩:=hd y F;exact(hr.own n y' y hn Q r).1 hS
     .exact h8 m y' y hm Q r F) x1.size (λb R=>by
     have y2:v'.ownBlock=A b:=by
      rcases xm.2 with⟨g1,_⟩|⟨g,ha,x7,g1,_⟩
      .rw[g1]at R;simp[AO]at R
      .rw[g1]at R|-;simpa[AO,Value.ownBlock]using R
     rcases ya with e|e
     .rw[y2]at e;obtain⟨n,y,_,hn,F,r⟩:=hd b e.symm;obtain⟨q1,q2⟩:=hr.own n y b hn F r;exact⟨q1,q2,λm y' hm Q xq=>h8 m y' b hm Q xq e.symm⟩
     .rw[y2]at e;simp at e;subst e;exact⟨λhS=>absurd (hr.stay _ hS)<|Nat.lt_irrefl _,hB _<|q_ _,λm y hm F r=>absurd (xy.lt hm F r)<|Nat.lt_irrefl _⟩) xi
   refine⟨.value v',w',v',ext ν nm v',S,Ey ho (s:=Builtin.append_ tys o.type<|xs.map ρ) (λ_=>rfl) (by rw[xj,xx];simpa using yg),.inl rfl,?_⟩;subst xf;refine⟨Agk xr,Aur,λ_ h=>h,λ_ h=>.inl h,?_,λs hs=>?_,x1.size,λb R hn=>hf b R λy F e=>?_,x1.os,x1.tape,x1.output⟩
   .have:By h (D++[(nm,A<|.row e<|l++l')])=λm=>if nm=m then A (.row e<|l++l')else h' m:=by
     subst hD;cases n0 with
     |none=>funext m;simp[By,<-x6,Abz]
     |some n=>funext m;simp[By,<-x6,Abz]
    simp only[this];exact xp
   .simp at hs;subst hs;refine .p _ _<|.one _ _ ?_;rcases xm.2 with⟨g1,g2⟩|⟨g,ha,x7,g1,_⟩
    .exact⟨_,_,_,DT,g1⟩
    .exact⟨_,_,_,DT,g1⟩
   .obtain⟨n,y',_,x9,Q,r⟩:=hd y F;subst e;exact hn n y' x9 Q r
  unfold Av1 at h5;cases c with
  |sc v=>
   simp[J]at h5;obtain⟨xa,yp⟩:=Ff hev hc;have y6:v=.slice C 0 0/\l=[]:=by
    unfold Il at hl;split at hl
    .rename_i hx;simp at hl hx;exact⟨hx,by first|exact hl|exact hl.symm⟩
    .rename_i hx;simp at hx
    .rename_i hx;simp at hx
    .simp at hl
   obtain⟨rfl,rfl⟩:=y6;refine xd [] C c'.rds h5.symm rfl ⟨[],⟨σ,.inl ⟨xa,σ⟩⟩,σ⟩ (λb R=>?_) σ;rw[xa]at R;simp[Value.ownBlock]at R
  |own n=>
   obtain⟨yr,h6⟩:=L h5;simp[J]at h6;obtain⟨av,yo,ym,hv,xa⟩:=Hk hev hc;unfold Il at hl;simp only at hl;split at hl
   .rename_i t' l0 hn;obtain⟨rfl,rfl⟩:=SP hl;refine xd [(n,C)] (A n) (n::c'.rds) h6.symm rfl ?_ (λb R=>?_) (λn' x9 e=>?_)
    .rcases hr.blk n _ hn with⟨g1,g2⟩|⟨b,ha,cc,te,g1,g2,g3,g4,g5,g6,g7⟩
     .rw[hv]at g1;simp at g1;subst g2;exact⟨[],⟨σ,.inl ⟨g1,σ⟩⟩,σ⟩
     .rw[hv]at g1;simp at g1;subst g6;have yn:l.length*G.sz te<=ha*G.sz te:=K_ _ g3;refine⟨cc.toList.take<|l.length*G.sz te,⟨by simp;omega,.inr ⟨b,ha,cc,g1,Q_ _,g2,g3,g7,g4,rfl⟩⟩,λi j y cv F h9=>?_⟩;obtain⟨u,hu,hg⟩:=g5 i j y cv F h9;have hi:i<l.length:=(f_.1 F).1;have hj:j<G.sz te:=by have:=(f_.1 h9).1;rw[xv]at this;exact this
      have:(i+1)*G.sz te<=l.length*G.sz te:=K_ _ ω
      rw[a5_]at this;exact⟨u,by rw[B_ ω];simpa using hu,hg⟩
    .refine⟨n,ρ x,rfl,by rw[hn];simp,hv,?_⟩;rw[xa]at R|-;cases av with
     |none=>simp[Value.ownBlock]at R
     |some ad=>simpa[Value.ownBlock,AO]using R
    .simp at x9;subst x9;subst e
     have:=hfresh n (by rw[<-h6];simp)
     rw[hv]at this;simp at this
   .simp at hl
  |_=>simp[I]at h5
 |_=>simp[AK,Lf,ht,I]at hp
end
end Go.Ab
namespace Go.Ab
variable{G:Sig}
variable{α:Type}{m:M α}
def Law{α:Type}(m:M α):Prop:=∀(R:Type) (k:α->Option R),m R k=(m α A).bind k
def Law.spec{R:Type}(h:Law m){k:α->Option R}{r:R}(p:m R k=A r):∃a,m α A=A a/\k a=A r:=by
 rw[h R k]at p;cases u:m α A with
 |none=>rw[u]at p;simp at p
 |some a=>rw[u]at p;exact⟨a,rfl,p⟩
def Af(a:α):Law<|J a:=λ_ _=>rfl
def Ai:Law (I:M α):=λ_ _=>rfl
def An(b:Bool):Law<|M.need b:=λ_ _=>by cases b<;>rfl
def AT(o:Option α):Law<|M.opt o:=λ_ _=>by cases o<;>rfl
def Alq(b:Bool):Law<|M.split b:=λ_ _=>by cases b<;>rfl
def Ad{β:Type}{f:α->M β}(p:Law m)(r:∀a,Law<|f a):Law<|M.bind m f:=λR k=>by
 show m R (λa=>f a R k)=(m β (λa=>f a β A)).bind k;rw[p R,p β];cases m α A with
 |none=>rfl
 |some a=>exact r a R k
section
variable{cf:Ch G}(hcf:∀g args h nm,Law (cf g args h nm)){ev:Operand->Option (Sv G.T)}{h:Nat->Option (W G.T)}{nm:Nat}
theorem Ok(x:Operand):Law<|evP ev x:=λR k=>by unfold evP;split<;>rfl
theorem Ea(x:Operand):Law<|evC ev x:=λR k=>by unfold evC;split<;>rfl
theorem ET(x:Operand):Law<|evI ev x:=λR k=>by unfold evI;split<;>rfl
theorem Bka(x:Operand):Law<|evB ev x:=λR k=>by unfold evB;split<;>rfl
theorem Qo:∀xs:List Operand,Law<|Ul ev xs
 |[]=>Af _
 |x::t=>Ad (Ok x) λ_=>Ad (Qo t) λ_=>Af _
theorem Nk:∀xs:List<|Nat×Operand,Law<|IH ev xs
 |[]=>Af _
 |(_,x)::t=>Ad (Ok x) λ_=>Ad (Nk t) λ_=>Af _
theorem QO(d m:Nat)(x:Option Operand):Law<|Gx ev d m x:=by
 cases x with
 |none=>exact Af _
 |some x=>unfold Gx;exact Ad (ET x) λ_=>Ad (An _) λ_=>Af _
theorem Aam(x:Operand):Law<|QH ev x:=λR k=>by unfold QH;split<;>rfl
theorem Aet{α:Type}{k:Nat->M α}(p:∀q,Law<|k q)(i:Nat):∀n q:Nat,Law<|M.pick k i q n
 |0,_=>Ai
 |n+1,q=>by
  unfold M.pick;refine Ad (Alq _) λb=>?_;cases b
  .exact Aet p i n<|q+1
  .exact p q
theorem Bft(e:Nat)(c:Cv G.T):Law<|Aq1 h e c:=by
 unfold Aq1;split
 .exact Af _
 .exact Ad (AT _) λ_=>Af _
theorem Bbu(t e:Nat)(l:List<|G.T e)(c k:Cv G.T):Law<|Abw h t e l c k:=by
 unfold Abw;split
 .split<;>first|exact Ai|exact Ad (An _) λ_=>Ad (AT _) λ_=>Af _
 .split<;>first|exact Ai|exact Ad (An _) λ_=>Ad (AT _) λ_=>Ad (An _) λ_=>Af _
 .exact Ai
theorem Atp(e len:Nat)(cs:List<|Cv G.T):Law<|Xf h nm e len cs:=by
 unfold Xf;split
 .exact Ad (An _) λ_=>Af _
 .exact Ad (AT _) λ_=>Ad (AT _) λ_=>Af _
theorem Axl(c:Cv G.T)(cs:List<|Cv G.T):Law<|Abh h c cs:=by
 unfold Abh;split
 .exact Ad (AT _) λ_=>Ad (An _) λ_=>Ad (AT _) λ_=>Af _
 .unfold RI;exact Ad (AT _) λ_=>Af _
theorem Bj9(op:BinOp)(x y:Value):Law<|bin op x y:=by
 unfold bin;split
 .unfold Rr;split<;>first
   |exact Ad (An _) λ_=>Af _
   |exact Ad (An _) λ_=>Ad (AT _) λ_=>Af _
   |exact Ad (An _) λ_=>Ad (An _) λ_=>Af _
 .unfold Afz;split<;>exact Ad (An _) λ_=>Ad (AT _) λ_=>Af _
 .unfold Af0;split<;>first|exact Ai|exact Af _|exact Ad (An _) λ_=>Af _
 .exact Ai
theorem Ato(b:Builtin)(tys:List Nat)(xs:List Operand):Law<|AK ev h nm b tys xs:=by
 unfold AK;split
 .unfold VZ;split
  .refine Ad (Ea _) λc=>?_;split<;>first|exact Ai|exact Af _
  .exact Af _
  .exact Ad (Ea _) λ_=>Bft _ _
  .exact Ai
 .unfold Av7;exact Ad (ET _) λ_=>Ad (ET _) λ_=>Ad (An _) λ_=>Af _
 .unfold Av6;exact Ad (ET _) λ_=>Ad (ET _) λ_=>Ad (An _) λ_=>Af _
 .unfold Ani;exact Ad (ET _) λ_=>Ad (ET _) λ_=>Ad (ET _) λ_=>Ad (An _) λ_=>Ad (An _) λ_=>Af _
 .unfold Anh;exact Ad (ET _) λ_=>Ad (ET _) λ_=>Ad (ET _) λ_=>Ad (An _) λ_=>Ad (An _) λ_=>Af _
 .unfold Lf;split
  .refine Ad (An _) λ_=>Ad (Ea _) λc=>Ad (Ea _) λ_=>Ad (AT _) λ_=>Ad (AT _) λ_=>Ad (An _) λ_=>?_;unfold Av1;split
   .exact Af _
   .exact Ad (An _) λ_=>Af _
   .exact Ai
  .exact Ai
 .unfold QK;split
  .exact Ad (An _) λ_=>Ad (Ea _) λ_=>Ad (Ea _) λ_=>Ad (AT _) λ_=>Bbu _ _ _ _ _
  .exact Ai
 .exact Ai
theorem Ag5{α:Type}(i:Nat)(f:Nat->Option α):∀l,Law<|UK i f l
 |[]=>Ai
 |q::t=>λR k=>by
  simp only[UK];cases aD i q with
  |true=>exact AT _ R k
  |false=>exact Ag5 i f t R k
theorem Bbv(h:Nat->Option (W G.T))(n:Nat)(c:Cv G.T):Law<|SZ h n c:=by
 unfold SZ;cases Abu h c with
 |false=>exact AT _
 |true=>
  rw[h_];split
  .exact Ag5 _ _ _
  .exact Ai
include hcf
theorem Ab4(op:Op):Law<|act cf ev h nm op:=by
 cases op
 case makeFunc fn a b=>
  cases fn
  case func f=>show Law (Ve ev f a.toList b.toList);unfold Ve;exact Ad (Qo _) λ_=>Ad (Qo _) λ_=>Ad (AT _) λ_=>Ad (AT _) λ_=>Af _
  all_goals exact Ai
 case call c=>
  obtain⟨callee,xs,tys⟩:=c;cases callee
  case value f=>
   show Law (Pi cf ev h nm f xs.toList);unfold Pi;refine Ad (Ea _) λc=>Ad (Qo _) λa=>?_;cases c<;>try exact Ai
   show Law (match G.ext _ with|0=>_|1=>_|_=>_);split
   .exact hcf _ _ _ _
   .unfold XS;split<;>first|exact Ai|exact Af _
   .unfold XT;split<;>first|exact Ai|exact Af _
  case builtin b=>exact Ato _ _ _
  case invoke=>exact Ai
 case move x=>exact Aam x
 case assign x=>exact Aam x
 case pick c a b=>show Law (Vf ev c a b);unfold Vf;exact Ad (Bka _) λ_=>Ad (Alq _) λ_=>Aam _
 case alloc t=>show Law (Zx nm t);unfold Zx;split<;>first|exact Ai|exact Af _
 case box t x=>show Law (Zz ev nm x);unfold Zz;exact Ad (Ok _) λ_=>Ad (An _) λ_=>Af _
 case build t ps=>show Law (Rj ev t ps.toList);unfold Rj;split<;>first|exact Ai|exact Ad (Nk _) λ_=>Ad (AT _) λ_=>Af _
 case buildSlice t n ps=>show Law (Ew ev h nm t n ps.toList);unfold Ew;split<;>first|exact Ai|exact Ad (Nk _) λ_=>Ad (An _) λ_=>Ad (AT _) λ_=>Atp _ _ _
 case load t a=>show Law (LH ev h t a);unfold LH;exact Ad (Ea _) λ_=>Ad (Bbv _ _ _) λ_=>Ad (AT _) λ_=>Af _
 case store t a x=>show Law (LY ev h t a x);unfold LY;exact Ad (Ea _) λ_=>Ad (Ok _) λ_=>Ad (An _) λ_=>Axl _ _
 case nilCheck x=>show Law (ZA ev x);unfold ZA;exact Ad (Ea _) λ_=>Ad (An _) λ_=>Af _
 case binOp op t x y u=>
  show Law (Zy ev op t x y);unfold Zy;refine Ad (Ok _) λa=>Ad (Ok _) λb=>?_;unfold Ben;split
  .unfold Bel;cases Axr _ with
   |true=>rw[h_];refine Ad (AT _) λq=>?_;unfold Bem;split<;>first|exact Ai|exact Af _
   |false=>
   simp only[g_];split
   .unfold Aoy;split
    .split<;>first|exact Ai|exact Af _
    .exact Ad (Bj9 _ _ _) λ_=>Af _
   .exact Ai
  .refine Ad (An _) λ_=>Ad (AT _) λ_=>?_;split<;>first|exact Ai|exact Af _
  .exact Ai
 case unOp op t x=>show Law (aUn ev op x);unfold aUn;refine Ad (Ea _) λc=>?_;unfold unP;split<;>first|exact Ai|exact Af _|exact Ad (AT _) λ_=>Af _
 case convert s t x=>
  show Law (Pj ev h s t x);unfold Pj;refine Ad (An _) λ_=>Ad (Ea _) λc=>?_;have p:∀y,Law<|Abv (G:=G) y c:=λy=>by unfold Abv;split<;>first|exact Ai|exact Af _
  split
  .cases Ag1 (G.ty t)with
   |true=>rw[h_];refine Ad (An _) λ_=>Ad (AT _) λ_=>Af _
   |false=>rw[g_];exact p _
  .exact p _
 case makeSlice t x y=>show Law (Ja ev nm t x y);unfold Ja;split<;>first|exact Ai|exact Ad (ET _) λ_=>Ad (ET _) λ_=>Ad (An _) λ_=>Ad (AT _) λ_=>Af _
 case slice t x lo hi mx=>
  show Law (Rm ev t x lo hi mx);unfold Rm;split
  .exact Ai
  .split
   .refine Ad (Ea _) λc=>?_;unfold Xh;split<;>first|exact Ai|exact Ad (QO _ _ _) λ_=>Ad (QO _ _ _) λ_=>Af _
   .refine Ad (Ea _) λc=>?_;unfold Xg;split<;>first|exact Ai|exact Ad (An _) λ_=>Ad (QO _ _ _) λ_=>Ad (QO _ _ _) λ_=>Af _
   .refine Ad (Ea _) λc=>?_;unfold Ar2;split<;>first|exact Ai|exact Af _
   .exact Ai
 case fieldAddr t x f=>show Law (IZ ev t x f);unfold IZ;split<;>first|exact Ai|exact Ad (Ea _) λ_=>Ad (AT _) λ_=>Ad (AT _) λ_=>Af _
 case field t x f=>
  show Law (Rk ev t x f);unfold Rk;split
  .refine Ad (Ok _) λy=>?_;unfold Agl;split<;>first|exact Ai|exact Ad (AT _) λ_=>Ad (AT _) λ_=>Ad (AT _) λ_=>Af _
  .exact Ai
 case indexAddr t x i=>
  show Law (FA ev h t x i);unfold FA;split
  .refine Ad (Ea _) λc=>Ad (ET _) λi=>?_;unfold ixA;split<;>first|exact Ai|exact Ad (An _) λ_=>Ad (AT _) λ_=>Ad (AT _) λ_=>Af _|exact Ad (An _) λ_=>Af _
  .refine Ad (Ea _) λc=>Ad (ET _) λi=>?_;unfold ixS;split
   .split<;>first|exact Ai|exact Ad (An _) λ_=>Ad (An _) λ_=>Af _
   .exact Ad (An _) λ_=>Ad (An _) λ_=>Af _
   .exact Ad (An _) λ_=>Aet (λ_=>Af _) _ _ _
   .exact Ai
  .exact Ai
 case index t x i=>
  show Law (Rl ev t x i);unfold Rl;split
  .refine Ad (Ok _) λc=>Ad (ET _) λi=>?_;unfold Anu;split
   .refine Ad (An _) λ_=>?_;split
    .exact Aet (λ_=>Ad (AT _) λ_=>Ad (AT _) λ_=>Af _) _ _ _
    .exact Ad (AT _) λ_=>Ad (AT _) λ_=>Af _
   .exact Ai
  .refine Ad (Ea _) λc=>Ad (ET _) λi=>?_;unfold ixV;split<;>first|exact Ai|exact Ad (An _) λ_=>Af _
  .exact Ai
 case extract x i=>
  show Law (LX ev x i);intro R k;unfold LX;split
  .split<;>rfl
  .rfl
 all_goals exact Ai
end
end Go.Ab
namespace Go.Ab
variable{G:Sig}
variable{l:List (Pv G.T)}{out:O G}
def Bbd(h:XS l (O G) A=A out):∃n,l=[.one<|.sc<|.float .f64 n]/\out=outV (.int .u64 (n:Int)):=by
 rcases l with _|⟨x,_|⟨y,t⟩⟩
 .simp[XS,I]at h
 .cases x with
  |agg _=>simp[XS,I]at h
  |one c=>
   cases c with
   |sc v=>
    cases v with
    |float k n=>
     cases k with
     |f32=>simp[XS,I]at h
     |f64=>exact⟨n,rfl,(r_ h).symm⟩
    |_=>simp[XS,I]at h
   |_=>simp[XS,I]at h
 .simp[XS,I]at h
def Bbe(h:XT l (O G) A=A out):∃n,l=[.one<|.sc<|.int .u64 n]/\out=outV (.float .f64 n.toNat):=by
 rcases l with _|⟨x,_|⟨y,t⟩⟩
 .simp[XT,I]at h
 .cases x with
  |agg _=>simp[XT,I]at h
  |one c=>
   cases c with
   |sc v=>
    cases v with
    |int k n=>cases k<;>first|exact⟨n,rfl,(r_ h).symm⟩|simp[XT,I]at h
    |_=>simp[XT,I]at h
   |_=>simp[XT,I]at h
 .simp[XT,I]at h
structure CfOK(P:Program)(G:Sig)(cf:Ch G):Prop where
 law:∀g args h nm,Law (cf g args h nm)
 calls:∀g args h nm out,cf g args h nm (Out G) some=some out->
  (∃ fn, P.funcs[g]? = some fn /\ (fn.name == "runtime.NumGoroutine") = false /\ fn.body.isNone = false) /\
  ∀(ν:Nat->Option Value) (S B:Nat->Prop) (w:World) (vals:List Value),HRel G ν S B h w->(∀b,w.heap.size<=b->B b)->(∀n∈out.nw,ν n=none)->F2 (Rp G ν S w.heap) args vals->
   Calls P g vals.toArray w λe w'=>∃v ν' S',e=.returned v/\Post G ν S B h w out (By h out.d) ν' S' w' v
def YY{ev:Operand->Option (Sv G.T)}{h:Nat->Option (W G.T)}{nm:Nat}{b:Builtin}{tys:List Nat}{xs:List Operand}(k:AK ev h nm b tys xs (O G) A=A out):
  (b=.len/\∃t F x,tys=t::F/\xs=[x])\/(b=.min/\∃x y,xs=[x,y])\/(b=.max/\∃x y,xs=[x,y])\/(b=.append/\∃t x y,tys=[t,t]/\xs=[x,y])\/
  (b=.min/\∃x y z,xs=[x,y,z])\/(b=.max/\∃x y z,xs=[x,y,z])\/(b=.copy/\∃t x y,tys=[t,t]/\xs=[x,y]):=by
 cases b with
 |len=>rcases tys with _|⟨t,F⟩<;>rcases xs with _|⟨x,_|⟨y,D⟩⟩<;>first|(simp[AK,I]at k;done)|exact .inl ⟨rfl,_,_,_,rfl,rfl⟩
 |min=>rcases xs with _|⟨x,_|⟨y,_|⟨z,_|⟨u,D⟩⟩⟩⟩<;>first|(simp[AK,I]at k;done)|exact .inr (.inl ⟨rfl,_,_,rfl⟩)|exact .inr<|.inr<|.inr<|.inr<|.inl ⟨rfl,_,_,_,rfl⟩
 |max=>rcases xs with _|⟨x,_|⟨y,_|⟨z,_|⟨u,D⟩⟩⟩⟩<;>first|(simp[AK,I]at k;done)|exact .inr (.inr<|.inl ⟨rfl,_,_,rfl⟩)|exact .inr<|.inr<|.inr<|.inr<|.inr<|.inl ⟨rfl,_,_,_,rfl⟩
 |append=>
  rcases tys with _|⟨t,_|⟨r,_|⟨t2,F⟩⟩⟩<;>rcases xs with _|⟨x,_|⟨y,_|⟨z,D⟩⟩⟩<;>first|(simp[AK,I]at k;done)|skip
  have p:Lf ev h nm t r x y (O G) A=A out:=k
  have:t=r:=by unfold Lf at p;cases Q:G.ty t<;>simp only[Q]at p<;>first|(simp[I]at p;done)|exact AD.1 (L p).1
  subst this;exact .inr<|.inr<|.inr<|.inl ⟨rfl,_,_,_,rfl,rfl⟩
 |copy=>
  rcases tys with _|⟨t,_|⟨r,_|⟨t2,F⟩⟩⟩<;>rcases xs with _|⟨x,_|⟨y,_|⟨z,D⟩⟩⟩<;>first|(simp[AK,I]at k;done)|skip
  have p:QK ev h t r x y (O G) A=A out:=k
  have:t=r:=by unfold QK at p;cases Q:G.ty t<;>simp only[Q]at p<;>first|(simp[I]at p;done)|exact AD.1 (L p).1
  subst this;exact .inr<|.inr<|.inr<|.inr<|.inr<|.inr ⟨rfl,_,_,_,rfl,rfl⟩
 |_=>simp[AK,I]at k
section
variable{P:Program}{ν:Nat->Option Value}{S B:Nat->Prop}{h:Nat->Option (W G.T)}{w:World}{a:Act}{o:Oper}
variable(ok:SigOK P G)(eqok:EqOK P G){cf:Ch G}(cfok:CfOK P G cf)
 {ev:Operand->Option (Sv G.T)}(hev:∀x s,ev x=A s->Rs G ν S w.heap s (a.eval x)) (hr:HRel G ν S B h w) (hB:∀b,w.heap.size<=b->B b)
 {nm:Nat}{out:O G}(hfresh:∀n∈out.nw,ν n=C)
include ok eqok cfok hev hr hB hfresh
theorem Bne(k:act cf ev h nm o.op (O G) A=A out){K:Act->World->Prop}{Q:Exit->Act->World->Prop}
  (hK:∀ν' S' w' v,Post G ν S B h w out (By h out.d) ν' S' w' v->K (a.put o.dst v) w'):o.wp P a w K Q:=by
 have D:Z P G a.eval o ν S B h w out->o.wp P a w K Q:=by
  rintro⟨nx,w',v,ν',S',h4,hn,hp⟩;unfold Oper.wp;rw[h4];rcases hn with rfl|⟨rfl,rfl⟩
  .exact hK _ _ _ _ hp
  .exact hK _ _ _ _ hp
 cases F:o.op with
 |move x=>rw[F]at k;exact D<|Alx hev hr (.inl F) k
 |assign x=>rw[F]at k;exact D<|Alx hev hr (.inr F) k
 |pick c x y=>rw[F]at k;exact D<|Bch hev hr F k
 |alloc t=>rw[F]at k;exact D<|Avy ok hr hB hfresh F k
 |box t x=>rw[F]at k;exact D<|Ber hev hr hB hfresh F k
 |build t ps=>rw[F]at k;exact D<|Awe ok hev hr F k
 |buildSlice t n ps=>rw[F]at k;exact D<|Af3 ok hev hr hB hfresh F k
 |load t x=>rw[F]at k;exact D<|Bb1 ok hev hr F k
 |store t x y=>rw[F]at k;exact D<|Ayl ok hev hr F k
 |nilCheck x=>rw[F]at k;exact D<|Bgd hev hr F k
 |binOp op t x y u=>rw[F]at k;exact D<|Beo ok eqok hev hr F k
 |unOp op t x=>rw[F]at k;exact D<|Bkz hev hr F k
 |convert s t x=>rw[F]at k;exact D<|Bau ok hev hr F k
 |makeFunc fn x y=>
  rw[F]at k;cases fn with
  |func f=>exact D<|Amz hev hr F k
  |_=>simp[act,I]at k
 |makeSlice t x y=>rw[F]at k;exact D<|Ajx ok hev hr hB hfresh F k
 |slice t x lo hi mx=>rw[F]at k;exact D<|Ayc ok hev hr F k
 |fieldAddr t x f=>rw[F]at k;exact D<|Ajh ok hev hr F k
 |field t x f=>rw[F]at k;exact D<|Aw8 ok hev hr F k
 |indexAddr t x i=>rw[F]at k;exact D<|Ajm ok hev hr F k
 |index t x i=>rw[F]at k;exact D<|Axi ok hev hr F k
 |extract x i=>rw[F]at k;exact D<|Ap7 hev hr F k
 |call c=>
  rw[F]at k;obtain⟨callee,xs,tys⟩:=c;cases callee with
  |invoke r m=>exact absurd k (by intro e;cases e)
  |builtin b=>
   have k:AK ev h nm b tys.toList xs.toList (O G) A=A out:=k;rcases YY k with⟨rfl,t,ts,x,h1,h2⟩|⟨rfl,x,y,h1⟩|⟨rfl,x,y,h1⟩|⟨rfl,t,x,y,h1,h2⟩|⟨rfl,x,y,z,h1⟩|⟨rfl,x,y,z,h1⟩|⟨rfl,t,x,y,h1,h2⟩
   .exact D<|Bfw ok hev hr F ⟨_,h1⟩ h2 k
   .exact D<|Adf hev hr (.inl rfl) F h1 k
   .exact D<|Adf hev hr (.inr rfl) F h1 k
   .exact D<|Asv ok hev hr hB hfresh F h1 h2 k
   .exact D<|Aau hev hr (.inl rfl) F h1 k
   .exact D<|Aau hev hr (.inr rfl) F h1 k
   .exact D<|Bav ok hev hr F h1 h2 k
  |value f=>
   have k:Pi cf ev h nm f xs.toList (O G) A=A out:=k;unfold Pi at k;obtain⟨c,hc,h1⟩:=aB k;obtain⟨as,h2,has⟩:=Af1 h1;unfold XC at h2;cases c with
   |clo g fst hw=>
    simp only at h2;obtain⟨vp,vq,hv,hs,hj⟩:=Hk hev hc;have h7:∀(ps:List<|Nat×Nat) (vs:List Value),F2 (RPtr ν) ps vs->F2 (Rp G ν S w.heap) (ps.map Ae5) vs:=λps vs hk=>F2.map_left (hk.mono λp v hg=>.one _ _ hg);have hd:F2 (Rp G ν S w.heap) as<|xs.toList.map a.eval:=by
     refine⟨by simp[has.1],λi x v hx hv=>?_⟩;rw[X_]at hv;cases hq:xs.toList[i]? with
     |none=>simp[hq]at hv
     |some y=>simp[hq]at hv;subst hv;exact UF hev<|has.2 i y x hq hx
    have R:=(h7 _ _ hs).append<|hd.append<|h7 _ _ hj;have h6:∀(m:Nat) (u:Value),G.ext g=m->m≠0->((Bfc m) (vp++(xs.toList.map a.eval++vq)).toArray).run P w=.ok u w->out=outV u->Kc u=N->o.wp P a w K Q:=by
     intro m u hm h0 h4 he hu;obtain⟨fn,f1,f2,f3,f4,f5⟩:=ok.ext g (by rw[hm];exact h0);rw[hm]at f5;refine D ?_;rw[he];refine aA hr ?_ hu;unfold execOp;rw[F]
     have:=run_callFunc_extern f1 f2 f3 f4 f5 (vp++(xs.toList.map a.eval++vq)).toArray w
     rw[h4]at this;simp only[resolve,hv,Deferred.ofValue,invoke,M_,a7_,u_];rw[show(vp++(xs.toList.map a.eval++vq)).toArray=vp.toArray++(xs.map a.eval++vq.toArray)from by apply Array.ext';simp]at this;simpa using this
    generalize hm:G.ext g=m at h2
    match m,hm,h2 with
    |1,hm,h2=>
     obtain⟨n,hl,h3⟩:=Bbd h2;rw[hl]at R;obtain⟨v0,t0,e0,ha,hb⟩:=R.inv;obtain rfl:=hb.inv_nil;have e1:v0=.float .f64 n:=by cases ha with|one _ _ hc=>cases(show Rd G S w.heap (.sc<|.float .f64 n) v0 from hc);rfl
     exact h6 1 _ hm ω (by rw[e0,e1];rfl) h3 rfl
    |m+2,hm,h2=>
     obtain⟨n,hl,h3⟩:=Bbe h2;rw[hl]at R;obtain⟨v0,t0,e0,ha,hb⟩:=R.inv;obtain rfl:=hb.inv_nil;have e1:v0=.int .u64 n:=by cases ha with|one _ _ hc=>cases(show Rd G S w.heap (.sc<|.int .u64 n) v0 from hc);rfl
     exact h6 (m+2) _ hm ω (by rw[e0,e1];rfl) h3 rfl
    |0,hm,h2=>
     obtain⟨⟨fn,ht,h8,h9⟩,h5⟩:=cfok.calls g _ h nm out h2;have hc:=h5 ν S B w _ hr hB hfresh R;have hf:(execOp a.eval o).run P w=.ok (.enter g (vp++(xs.toList.map a.eval++vq)).toArray) w:=by unfold execOp;rw[F];simp only[resolve,hv,Deferred.ofValue,invoke,callFunc,M_,a7_,u_,run_program,ht,h8,h9];simp[<-Array.toList_map]
     unfold Oper.wp;rw[hf];refine hc.mono λe w' ⟨v,ν',S',he,hp⟩=>?_;subst he;exact hK _ _ _ _ hp
   |_=>simp[I]at h2
 |_=>rw[F]at k;simp[act,I]at k
end
end Go.Ab
namespace Go.Ab
variable{G:Sig}
variable{ν:Nat->Option Value}{S:Nat->Prop}{a:Act}{w:World}{st:St G}{ops:Array Oper}{d:Option Nat}{v:Value}{o:Oper}{b:Bool}{gs g j:Nat}
structure Cx where
 w0:World
 mo:Nat->Prop
 s0:Nat->Prop
 nu0:Nat->Option Value
 nt:Nat
 df:List Deferred:=[]
def Cx.own(cx:Cx)(b:Nat):Prop:=cx.mo b\/cx.w0.heap.size<=b
structure RelI(G:Sig)(cx:Cx)(ν:Nat->Option Value)(S:Nat->Prop)(st:St G)(a:Act)(w:World):Prop where
 slot:∀k s,get st.tm k=some s->Rs G ν S w.heap s (a.tmps.getD k undef)
 heap:HRel G ν S cx.own (get st.hp) w
 used:∀n,ν n≠none->n∈st.us
 defers:a.defers=cx.df
 nt:a.tmps.size=cx.nt
 size:cx.w0.heap.size<=w.heap.size
 frame:∀b,b<cx.w0.heap.size->¬cx.mo b->w.heap[b]?=cx.w0.heap[b]?
 env:w.os=cx.w0.os/\w.tape=cx.w0.tape/\w.output=cx.w0.output
 sub:∀b,S b->cx.s0 b\/cx.own b
 keep:∀b,cx.s0 b->S b
 names:∀n x,cx.nu0 n=some x->ν n=some x
def Rel(G:Sig)(cx:Cx)(st:St G)(a:Act)(w:World):Prop:=∃ν S,RelI G cx ν S st a w
def Rel.drawn{cx:Cx}(h:Rel G cx st a w)(n:Nat):Rel G cx st a { w with drawn:=n }:=
 let⟨ν,S,r⟩:=h
 ⟨ν,S,⟨r.slot,⟨r.heap.blk,r.heap.apart,r.heap.own,r.heap.stay,r.heap.gl⟩,r.used,r.defers,r.nt,r.size,r.frame,r.env,r.sub,r.keep,r.names⟩⟩
def Auy{h:Array Obj}(k:Kc v=N):Rd G S h (.sc v) v:=.sc v k
def Atl{tm:List<|Nat×Sv G.T}(hg:GlOK G S w.heap)(R:∀k s,Y tm k=A s->Rs G ν S w.heap s (a.tmps.getD k undef))(x:Operand)(s:Sv G.T)
  (r:KI tm x=A s):Rs G ν S w.heap s<|a.eval x:=by
 cases x with
 |tmp t=>exact R t s r
 |global g=>
  simp only[KI]at r;split at r
  .rename_i p hp;simp at r;subst r;exact .p _ _<|.one _ _ (hg g p hp).1
  .simp at r
 |func f=>simp[KI]at r;subst r;exact .p _ _<|.one _ _ ⟨[],[],rfl,.nil,.nil⟩
 |const v=>
  have one:(bif Kc v then A (Sv.p<|Pv.one<|Cv.sc v)else C)=A s->Rs G ν S w.heap s v:=by
   intro h;cases F:Kc v with
   |false=>simp[F]at h
   |true=>simp[F]at h;subst h;exact .p _ _<|.one _ _<|Auy F
  cases v with
  |agg cs=>
   simp only[KI]at r;cases u:cs.toList.all Kc with
   |false=>rw[u]at r;simp at r
   |true=>
    rw[u]at r;simp at r;subst r;refine .p _ _ ?_
    have:(Value.agg cs)=.agg cs.toList.toArray:=by simp
    show Rp G ν S w.heap _ (Value.agg cs);rw[this];refine .agg _ _<|F2.map_left ⟨rfl,λi x y Q D=>?_⟩;rw[Q]at D;simp at D;subst D;exact Auy<|F_.1 u x<|o_ Q
  |_=>exact one r
def Aqg{d:Nat}(p:d<a.tmps.size)(k:Nat):(a.put (A d) v).tmps.getD k undef=if d=k then v else a.tmps.getD k undef:=by
 simp only[Act.put,y_,f7_];by_cases e:d=k
 .subst e;simp[p]
 .simp[e]
def Ar1:(a.put d v).tmps.size=a.tmps.size:=by cases d<;>simp[Act.put]
def Aw0:(a.put d v).defers=a.defers:=by cases d<;>rfl
def RelI.drop{cx:Cx}(r:RelI G cx ν S st a w)(y:NH cx.nt d=N):
  RelI G cx ν S (st.drop d) (a.put d undef) w:=by
 cases d with
 |none=>exact r
 |some d=>
  have u:d<a.tmps.size:=by rw[r.nt];simp[NH,aF]at y;omega
  refine⟨λk s p=>?_,r.heap,r.used,r.defers,by rw[Ar1];exact r.nt,r.size,r.frame,r.env,r.sub,r.keep,r.names⟩;simp only[St.drop,Tn]at p;rw[Aqg u];by_cases e:d=k
  .rw[if_pos e]at p|-;simp at p;subst p;exact .tup _ _ .nil
  .rw[if_neg e]at p|-;exact r.slot k s p
def RelI.note{cx:Cx}(r:RelI G cx ν S st a w)(y:Y st.tm g=A (.p<|.one<|.sc<|.bool b)):
  RelI G cx ν S (st.note<|A (g,b)) a w:=by
 refine⟨λk s u=>?_,r.heap,r.used,r.defers,r.nt,r.size,r.frame,r.env,r.sub,r.keep,r.names⟩;simp only[St.note,Tn]at u;by_cases e:g=k
 .subst e;simp at u;subst u;exact r.slot g _ y
 .rw[if_neg e]at u;exact r.slot k s u
def Al8{cx:Cx}(r:RelI G cx ν S st a w)(k:Y st.tm g=A (.p<|.one<|.sc<|.bool b)):
  a.tmps.getD g undef=.bool b:=by
 have h:=r.slot g _ k;generalize a.tmps.getD g undef=v at h;cases h with
 |p _ _ h=>
  cases h with
  |one _ _ h=>have h':Rd G S w.heap (.sc<|.bool b) v:=h;cases h';rfl
def RelI.next{cx:Cx}(r:RelI G cx ν S st a w)(hd:NH cx.nt d=N){out:O G}
  {ν':Nat->Option Value}{S':Nat->Prop}{w':World}{v:Value}(hp:Post G ν S cx.own (Y st.hp) w out (By (Y st.hp) out.d) ν' S' w' v):RelI G cx ν' S' (st.next d out) (a.put d v) w':=by
 have Q:=hp.le r.heap;refine⟨λk s p=>?_,?_,λn D=>?_,by rw[Aw0];exact r.defers,by rw[Ar1];exact r.nt,b7_ r.size hp.size,λb y R=>?_,?_,λb y=>?_,λb y=>hp.st b<|r.keep b y,λn x D=>hp.nu n x<|r.names n x D⟩
 .cases d with
  |none=>exact(r.slot k s p).mono Q
  |some d=>
   have F:d<a.tmps.size:=by rw[r.nt];simp[NH,aF]at hd;omega
   rw[Aqg F];simp only[St.next]at p;split at p
   .rename_i u hu;rw[Tn]at p;by_cases e:d=k
    .rw[if_pos e]at p|-;simp at p;subst p;exact hp.val _ hu
    .rw[if_neg e]at p|-;exact(r.slot k s p).mono Q
   .rw[WP]at p;by_cases e:d=k
    .rw[if_pos e]at p;simp at p
    .rw[if_neg e]at p|-;exact(r.slot k s p).mono Q
 .simp only[St.next,Yd];exact hp.rel
 .rcases hp.new n D with h|h
  .exact n_.2<|.inr<|r.used n h
  .exact n_.2<|.inl h
 .rw[hp.frame b (c3_ y r.size) λn x D hx e=>?_]
  .exact r.frame b y R
  .rcases(r.heap.own n x b D hx e).2 with h|h
   .exact R h
   .omega
 .exact⟨hp.env.1.trans r.env.1,hp.env.2.1.trans r.env.2.1,hp.env.2.2.trans r.env.2.2⟩
 .rcases hp.stn b y with h|h
  .exact r.sub b h
  .exact .inr h
def Aac{us l:List Nat}(h:JD us l=N):∀n∈l,n∉us:=by
 induction l with
 |nil=>simp
 |cons k t r=>
  simp only[JD,a_]at h;intro n p;rcases x_.1 p with rfl|p
  .intro u;rw[(ES us n).2 u]at h;simp at h
  .exact r h.2 n p
section
variable{P:Program}(ok:SigOK P G)(eqok:EqOK P G){cf:Ch G}(cfok:CfOK P G cf){cx:Cx}
omit eqok ok in
theorem Vw(ops:Array Oper)(tm:List<|Nat×Sv G.T)(o:Oper):Law<|To ops tm o:=by
 unfold To;split
 .exact Af _
 .intro R k;unfold Agw;split
  .split
   .rename_i b _;cases b<;>rfl
   .rfl
   .rfl
  .rfl
include cfok in
theorem Aqz(ops:Array Oper)(o:Oper)(st:St G):Law<|An7 cf cx.nt ops o st:=by
 refine Ad (An _) λ_=>Ad (Vw _ _ _) λg=>?_;split
 .exact Ad (Ab4 cfok.law _) λ_=>Ad (An _) λ_=>Af _
 .exact Af _
include cfok in
theorem SY(ops:Array Oper):∀(l:List Oper) (st:St G),Law<|UH cf cx.nt ops l st
 |[],_=>Af _
 |o::t,st=>Ad (Aqz cfok ops o st) λst=>SY ops t st
inductive StepTo(cf:Ch G)(nt:Nat)(ops:Array Oper)(o:Oper)(st st':St G):Prop
 |act (g:Option (Nat×Bool)) (out:Out G) (hd:NH nt o.dst=true)
   (hg:∀p,g=some p->get st.tm p.1=some (.p (.one (.sc (.bool p.2))))/\∃j want,o.guard=some (j,want)/\(ops[j]?).bind (·.dst)=some p.1/\p.2=want)
   (hn:g=none->o.guard=none) (hact:act cf (KI st.tm) (get st.hp) (Anp 0 o.dst) o.op (Out G) some=some out) (hf:JD st.us out.nw=true) (e:st'=(st.note g).next o.dst out)
 |skip (p:Nat×Bool) (j:Nat) (want:Bool) (hd:NH nt o.dst=true) (hp:get st.tm p.1=some (.p (.one (.sc (.bool p.2))))) (hg:o.guard=some (j,want)) (hj:(ops[j]?).bind (·.dst)=some p.1) (hw:p.2≠want)
   (e:st'=(st.note (some p)).drop o.dst)
 |skipU (gs j:Nat) (want:Bool) (hd:NH nt o.dst=true) (hp:get st.tm gs=some (.tup [])) (hg:o.guard=some (j,want)) (hj:(ops[j]?).bind (·.dst)=some gs)
   (e:st'=st.drop o.dst)
include cfok in
theorem Bku{nt:Nat}{st':St G}(h:An7 cf nt ops o st (St G) A=A st'):StepTo cf nt ops o st st':=by
 unfold An7 at h;obtain⟨hd,h1⟩:=L h;obtain⟨⟨go,g⟩,k,F⟩:=(Vw ops st.tm o).spec<|aC h1;have y:∀(hg:∀p,g=A p->Y st.tm p.1=A (.p<|.one<|.sc<|.bool p.2)/\∃j r,o.guard=A (j,r)/\(ops[j]?).bind (·.dst)=A p.1/\p.2=r) (hn:g=C->o.guard=C),go=N->StepTo cf nt ops o st st':=by intro hg hn k;subst k;simp only at F;obtain⟨out,Q,h3⟩:=(Ab4 cfok.law _).spec<|aC F;obtain⟨hf,h4⟩:=L h3;simp[J]at h4;exact .act g out hd hg hn Q hf h4.symm
 unfold To at k;cases u:o.guard with
 |none=>simp[u,J]at k;obtain⟨rfl,rfl⟩:=k;exact y σ (λ_=>u) rfl
 |some jw=>
  obtain⟨j,r⟩:=jw;simp only[u,Agw]at k;split at k
  .rename_i gs D;split at k
   .rename_i b hb;have R:∀bb:Bool,Y st.tm gs=A (.p<|.one<|.sc<|.bool bb)->bb≠r->go=false->g=A (gs,bb)->StepTo cf nt ops o st st':=by
     intro bb h5 h6 h7 h8;subst h7;simp[J]at F;exact .skip (gs,bb) j r hd h5 u D h6 (by rw[<-h8];exact F.symm)
    cases b with
    |true=>
     simp at k;obtain⟨rfl,rfl⟩:=k;cases r with
     |true=>exact y (by rintro p hp;simp at hp;subst hp;exact⟨hb,j,N,u,D,rfl⟩) σ rfl
     |false=>exact R N hb σ rfl rfl
    |false=>
     simp at k;obtain⟨rfl,rfl⟩:=k;cases go with
     |false=>exact R false hb σ rfl rfl
     |true=>exact y (by rintro p hp;simp at hp;subst hp;exact⟨hb,j,_,u,D,rfl⟩) σ rfl
   .rename_i hu;simp at k;obtain⟨rfl,rfl⟩:=k;simp[J]at F;exact .skipU gs j r hd hu u D F.symm
   .simp at k
  .simp at k
theorem Aso{cx:Cx}(r:RelI G cx ν S st a w){k:Bool}(u:o.guard=A (j,k))
  (Q:(ops[j]?).bind (·.dst)=A gs) (y:Y st.tm gs=A (.tup [])):Region.wanted o (yielded ops a.tmps)=false:=by
 have h:=r.slot gs _ y;have p:a.tmps[gs]?=C\/a.tmps[gs]?=A (.tuple #[]):=by
  cases hq:a.tmps[gs]? with
  |none=>exact .inl rfl
  |some v=>
   right;rw[y_,hq]at h;simp at h;cases h with
   |tup xs vs D=>have:=D.inv_nil;subst this;rfl
 have F:yielded ops a.tmps j=C:=by unfold yielded;rw[Q];rcases p with p|p<;>simp[p]
 simp[Region.wanted,u,F]
theorem Amk{cx:Cx}(r:RelI G cx ν S st a w){k:Bool}(y:o.guard=A (j,k))
  (Q:(ops[j]?).bind (·.dst)=A gs) (u:Y st.tm gs=A (.p<|.one<|.sc<|.bool b)):Region.wanted o (yielded ops a.tmps)=(b==k):=by
 have h:=Al8 r u;have D:a.tmps[gs]?=A (.bool b):=by
  rw[y_]at h;cases hq:a.tmps[gs]? with
  |none=>rw[hq]at h;simp[undef]at h
  |some v=>rw[hq]at h;simp at h;rw[h]
 have F:yielded ops a.tmps j=A b:=by unfold yielded;rw[Q];simp[D]
 simp only[Region.wanted,y,F];cases b<;>cases k<;>rfl
include ok eqok cfok in
theorem Acb{st':St G}(h:StepTo cf cx.nt ops o st st')(r:Rel G cx st a w){K:Act->World->Prop}{Q:Exit->Act->World->Prop}
  (hK:∀a' w',Rel G cx st' a' w'->K a' w'):if Region.wanted o (yielded ops a.tmps)then o.wp P a w K Q else K (a.put o.dst undef) w:=by
 obtain⟨ν,S,r⟩:=r;cases h with
 |act g out D y hn F hf e=>
  have hw:Region.wanted o (yielded ops a.tmps)=N:=by
   cases g with
   |none=>simp[Region.wanted,hn rfl]
   |some p=>obtain⟨h1,j,k,h2,h3,h4⟩:=y p rfl;rw[Amk r h2 h3 h1,h4];simp
  rw[if_pos hw];have h0:∀n∈out.nw,ν n=C:=by
   intro n hn;cases hv:ν n with
   |none=>rfl
   |some x=>exact absurd (r.used n (by simp[hv]))<|Aac hf n hn
  refine Bne ok eqok cfok (λx s=>Atl r.heap.gl r.slot x s) r.heap (λb hb=>.inr<|b7_ r.size hb) h0 F λν' S' w' v hp=>hK _ _ ?_;subst e;have r':RelI G cx ν S (st.note g) a w:=by
   cases g with
   |none=>exact r
   |some p=>exact r.note (y p rfl).1
  have R:(st.note g).hp=st.hp:=by cases g<;>rfl
  exact⟨ν',S',r'.next D (by rw[R];exact hp)⟩
 |skip p j k D hp y hj hw e=>
  have u:Region.wanted o (yielded ops a.tmps)=false:=by rw[Amk r y hj hp];cases hb:p.2<;>cases h5:k<;>simp_all
  rw[if_neg (by simp[u])];subst e;exact hK _ _ ⟨ν,S,(r.note hp).drop D⟩
 |skipU gs j k D hp y hj e=>have u:=Aso r y hj hp;rw[if_neg (by simp[u])];subst e;exact hK _ _ ⟨ν,S,r.drop D⟩
include ok eqok cfok in
theorem Abc{ops:Array Oper}{Q:Exit->Act->World->Prop}:∀(l:List Oper) (st st':St G) (a:Act) (w:World),UH cf cx.nt ops l st (St G) A=A st'->Rel G cx st a w->
  (∀k w',Rel G cx st' k w'->Q .normal k w')->wpList P ops Q l a w
 |[],st,st',a,w,h,r,u=>by simp[UH,J]at h;subst h;exact u a w r
 |o::t,st,st',a,w,h,r,u=>by
  unfold UH at h;obtain⟨y,h1,R⟩:=(Aqz cfok ops o st).spec<|aC h;have p:=Acb ok eqok cfok (Bku cfok h1) r (K:=wpList P ops Q t) (Q:=Q) λk w' F=>Abc t y st' k w' R F u;unfold wpList;by_cases D:Region.wanted o (yielded ops a.tmps)=N
  .rw[if_pos D]at p|-;exact .inl p
  .rw[if_neg D]at p|-;exact p
end
end Go.Ab
namespace Go.Ab
variable{G:Sig}
variable{nm:List (Nat×Option Nat)}{h:Nat->Option (W G.T)}{v:Value}{fz:List Nat}{c:Cv G.T}{s:CSh}
def YE{n t:Nat}{l:List<|G.T t}(hr:YD h n t=A l):h n=A (.row t l):=by
 unfold YD at hr;split at hr
 .rename_i p r k;obtain⟨rfl,rfl⟩:=XD hr;exact k
 .simp at hr
def Awp{t k:Nat}{x:G.T t}{x':G.T k}(h:Awo G t k x=A x'):∃e:t=k,e▸x=x':=by
 unfold Awo at h;split at h
 .rename_i e;simp at h;exact⟨e,h⟩
 .simp at h
def Ajg:∀{a b:List<|Nat×Nat},XQ a b=N->a=b
 |[],[],_=>rfl
 |[],_::_,h=>by simp[XQ]at h
 |_::_,[],h=>by simp[XQ]at h
 |(x,y)::s,(u,v)::t,h=>by simp only[XQ,a_]at h;rw[Ajg h.2];have h1:x=u:=AD.1 h.1.1;have k:y=v:=AD.1 h.1.2;rw[h1,k]
def Acy{l:List Nat}:∀{m:List Nat},WH l m=N->∀n∈m,n∈l
 |[],_,_,h=>by simp at h
 |k::t,h,n,p=>by
  simp only[WH,a_]at h;rcases x_.1 p with rfl|p
  .exact(ES l n).1 h.1
  .exact Acy h.2 n p
def Alu:∀{p:List<|Nat×Nat}{q:Nat×Nat},q∈p->q.1∈SW p
 |x::t,q,h=>by
  rcases x_.1 h with rfl|h
  .simp[SW]
  .simp[SW,Alu h]
structure Ren(ν ν':Nat->Option Value)(S S':Nat->Prop)(h:Nat->Option (Blk G.T))(H:List Nat)(nm:List (Nat×Option Nat))(fz:List Nat)(sh:List (Nat×Nat)):Prop where
 own:∀p∈nm,ν' p.1=match p.2 with|some n=>ν n|none=>some (.slice none 0 0)
 keep:∀n∈H,ν' n=ν n
 frz:∀n∈fz,h n≠none->∀x b,ν n=some x->AO x=some b->S' b
 sub:∀b,S b->S' b
 shr:∀p∈sh,ν' p.1=ν p.2
def YH{m n:Nat}:∀{l:List<|Nat×Option Nat},Ahy m n l=N->(m,A n)∈l
 |[],h=>by cases h
 |(k,A j)::t,h=>by
  simp only[Ahy,V_,a_]at h;rcases h with⟨h1,p⟩|h
  .rw[AD.1 h1,AD.1 p];exact H_ ..
  .exact L_ _<|YH h
 |(_,C)::t,h=>L_ _<|YH (l:=t) h
def Abe{nm:List<|Nat×Option Nat}:∀{l:List<|Nat×Nat},Afg nm l=N->∀p∈l,(p.1,A p.2)∈nm
 |[],_,p,hp=>by cases hp
 |q::t,h,p,hp=>by
  simp only[Afg,a_]at h;rcases x_.1 hp with rfl|hp
  .exact YH h.1
  .exact Abe h.2 p hp
section
variable{ν ν':Nat->Option Value}{S S' B:Nat->Prop}{h:Nat->Option (W G.T)}{H:List Nat}{w:World}
def Ren.left{a b:List<|Nat×Option Nat}{c d:List Nat}{e f:List<|Nat×Nat}(r:Ren ν ν' S S' h H (a++b) (c++d)<|e++f):Ren ν ν' S S' h H a c e:=⟨λp hp=>r.own p (by simp[hp]),r.keep,λn k=>r.frz n (by simp[k]),r.sub,λp hp=>r.shr p (by simp[hp])⟩
def Ren.right{a b:List<|Nat×Option Nat}{c d:List Nat}{e f:List<|Nat×Nat}(r:Ren ν ν' S S' h H (a++b) (c++d)<|e++f):Ren ν ν' S S' h H b d f:=⟨λp hp=>r.own p (by simp[hp]),r.keep,λn k=>r.frz n (by simp[k]),r.sub,λp hp=>r.shr p (by simp[hp])⟩
def Ren.rptr{sh:List<|Nat×Nat}(r:Ren ν ν' S S' h H nm fz sh){p:Nat×Nat}(hp:p.1∈H)(u:RPtr ν p v):RPtr ν' p v:=by obtain⟨b,h1,k⟩:=u;exact⟨b,by rw[r.keep _ hp];exact h1,k⟩
def Ren.rptrs{sh:List<|Nat×Nat}(r:Ren ν ν' S S' h H nm fz sh){p:List<|Nat×Nat}(hp:WH H (SW p)=N){vs:List Value}(u:F2 (RPtr ν) p vs):F2 (RPtr ν') p vs:=⟨u.1,λi x y k D=>r.rptr (Acy hp _<|Alu<|o_ k)<|u.2 i x y k D⟩
def RowsOK(G:Sig)(ν':Nat->Option Value)(S':Nat->Prop)(w:World)(h:Nat->Option (W G.T))(nm:List<|Nat×Option Nat)(bl:List<|Nat×W G.T):Prop:=(∀p∈bl,Rb G ν' S' w.heap p.1 p.2)/\BB bl=DO nm/\∀p∈nm,∀n,p.2=A n->h n≠C
def GQ(a b:List<|Nat×W G.T):BB (a++b)=BB a++BB b:=by induction a with|nil=>rfl|cons x t k=>simp[BB,k]
def Uy(a b:List<|Nat×Option Nat):DO (a++b)=DO a++DO b:=by induction a with|nil=>rfl|cons x t k=>simp[DO,k]
def RowsOK.append{u:List<|Nat×Option Nat}{bl k:List<|Nat×W G.T}(r:RowsOK G ν' S' w h nm bl)(y:RowsOK G ν' S' w h u k):RowsOK G ν' S' w h (nm++u)<|bl++k:=⟨λp hp=>(n_.1 hp).elim (r.1 p)<|y.1 p,by rw[GQ,Uy,r.2.1,y.2.1],λp hp=>(n_.1 hp).elim (r.2.2 p)<|y.2.2 p⟩
def RowsOK.nil:RowsOK G ν' S' w h [] []:=⟨σ,rfl,σ⟩
def CSh.take_sound(hr:HRel G ν S B h w){t:Tk<|s.T G}(y:s.take h c=A t)(hf:s.fix H=N)(rn:Ren ν ν' S S' h H t.nm t.fz t.sh)(Q:Rc G ν S w.heap c v):
  Rc G ν' S' w.heap (s.give t.x) v/\RowsOK G ν' S' w h t.nm (s.blk t.x):=by
 have rd:∀{c:Cv G.T}{v:Value},Rd G S w.heap c v->Rd G S' w.heap c v:=λr=>r.mono rn.sub λ_ _=>rfl;cases s with
 |int k=>
  cases c with
  |sc u=>
   cases u with
   |int k' n=>
    simp only[U]at y;cases D:Ei k k' with
    |false=>rw[D]at y;simp at y
    |true=>rw[D]at y;simp[tk0]at y;subst y;rw[He D];exact⟨rd Q,.nil⟩
   |_=>simp[U]at y
  |_=>simp[U]at y
 |bool=>
  cases c with
  |sc u=>cases u<;>simp[U,tk0]at y;subst y;exact⟨rd Q,.nil⟩
  |_=>simp[U]at y
 |str=>
  cases c with
  |sc u=>cases u<;>simp[U,tk0]at y;subst y;exact⟨rd Q,.nil⟩
  |_=>simp[U]at y
 |flt k=>
  cases c with
  |sc u=>
   cases u with
   |float k' n=>
    simp only[U]at y;cases D:Pr k k' with
    |false=>rw[D]at y;simp at y
    |true=>rw[D]at y;simp[tk0]at y;subst y;rw[Ajf D];exact⟨rd Q,.nil⟩
   |_=>simp[U]at y
  |_=>simp[U]at y
 |own m t'=>
  cases c with
  |own n=>
   simp only[U]at y;split at y
   .rename_i l hl;simp at y;subst y;have hn:=YE hl;have ho:=rn.own (m,A n) σ;simp only at ho;obtain⟨av,len,R,h1,h2⟩:=Q;refine⟨⟨av,len,R,ho.trans h1,h2⟩,λp hp=>?_,rfl,λp hp n' h6=>?_⟩
    .simp[CSh.blk]at hp;subst hp;rcases hr.blk n _ hn with⟨g1,g2⟩|⟨b,h8,cs,te,g1,g2,g3,g4,g5,g6⟩
     .exact .inl ⟨ho.trans g1,g2⟩
     .refine .inr ⟨b,h8,cs,te,ho.trans g1,g2,g3,g4,λi j x cv hx h9=>?_,g6⟩;obtain⟨u,hu,hb⟩:=g5 i j x cv hx h9;exact⟨u,hu,rd hb⟩
    .simp at hp;subst hp;simp at h6;subst h6;rw[hn];simp
   .simp at y
  |sc u=>
   simp only[U]at y;cases D:RC u with
   |false=>rw[D]at y;simp at y
   |true=>
    rw[D]at y;simp at y;subst y;have hu:=Aai D;subst hu;have ho:=rn.own (m,C) σ;simp only at ho;have hv:v=.slice C 0 0:=by have Q:Rd G S w.heap (.sc<|.slice C 0 0) v:=Q;cases Q;rfl
    subst hv;refine⟨⟨C,0,0,ho,rfl⟩,λp hp=>?_,rfl,λp hp n' h6=>?_⟩
    .simp[CSh.blk]at hp;subst hp;exact .inl ⟨ho,rfl⟩
    .simp at hp;subst hp;simp at h6
  |_=>simp[U]at y
 |sh m=>
  cases c with
  |own n=>simp only[U]at y;simp at y;subst y;obtain⟨av,len,R,h1,h2⟩:=Q;exact⟨⟨av,len,R,(rn.shr (m,n) σ).trans h1,h2⟩,.nil⟩
  |_=>simp[U]at y
 |ro t'=>
  cases c with
  |ro hg l=>
   simp only[U]at y;split at y
   .rename_i l' hl;obtain⟨rfl,rfl⟩:=XD hl;simp[tk0]at y;subst y;exact⟨rd Q,.nil⟩
   .simp at y
  |own n=>
   simp only[U]at y;split at y
   .rename_i l hl;simp at y;subst y;have hn:=YE hl;refine⟨?_,.nil⟩;obtain⟨av,len,R,ha,rfl⟩:=Q;rcases hr.blk n _ hn with⟨h1,h2⟩|⟨b,h8,c,te,h1,h2,h3,h4,h5⟩
    .rw[ha]at h1;simp at h1;obtain⟨rfl,rfl,rfl⟩:=h1;simp only[CSh.give];rw[h2];exact .nil _ _ _
    .rw[ha]at h1;simp at h1;obtain⟨rfl,rfl,rfl⟩:=h1;have hd:S' b:=rn.frz n σ (by rw[hn];simp) _ b ha rfl;show Rd G S' w.heap (.ro t' l) _;refine .ro t' l b 0 R c te (0,0) (λi j=>c.getD (i*G.sz t'+j) undef) hd h2 (.inl h5.2.1) h3 (λi j hi hj=>?_) (λi j x cv hx h9=>?_)
     .have hm:(i+1)*G.sz t'<=R*G.sz t':=K_ _ ω;rw[a5_]at hm;have he:i*G.sz t'+j<c.size:=ω;rw[m_];simp[he]
     .obtain⟨v,hv,hb⟩:=h5.1 i j x cv hx h9
      have:c.getD (i*G.sz t'+j) undef=v:=by rw[y_,hv];rfl
      rw[this];exact rd hb
   .simp at y
  |sc u=>
   simp only[U]at y;cases D:RC u with
   |false=>rw[D]at y;simp at y
   |true=>
    rw[D]at y;simp[tk0]at y;subst y;have hu:=Aai D;subst hu;have hv:v=.slice C 0 0:=by have Q:Rd G S w.heap (.sc<|.slice C 0 0) v:=Q;cases Q;rfl
    subst hv;exact⟨Rd.nil _ _ _,.nil⟩
  |_=>simp[U]at y
 |rp t' off=>
  cases c with
  |rp hg x F=>
   simp only[U]at y;cases D:aD off F with
   |false=>rw[D]at y;simp at y
   |true=>
    rw[D,h_]at y;have e:=AD.1 D;subst e;split at y
    .rename_i x' hx;obtain⟨rfl,rfl⟩:=Awp hx;simp[tk0]at y;subst y;exact⟨rd Q,.nil⟩
    .simp at y
  |_=>simp[U]at y
 |ptr n off=>
  cases c with
  |ptr n' F=>
   simp only[U]at y;cases D:(aD n n'&&aD off F)with
   |false=>rw[D]at y;simp at y
   |true=>rw[D,h_]at y;simp only[a_]at D;have e1:n=n':=AD.1 D.1;have e2:off=F:=AD.1 D.2;subst e1;subst e2;simp[tk0]at y;subst y;exact⟨rn.rptr ((ES H n).1 hf) Q,.nil⟩
  |_=>simp[U]at y
 |nili=>
  cases c with
  |sc v'=>
   simp only[U]at y;cases D:Aqs v' with
   |false=>rw[D]at y;simp at y
   |true=>
    rw[D,h_]at y;simp[tk0]at y;subst y;have h0:Rd G _ _ (.sc v') _:=Q;cases h0;refine⟨?_,.nil⟩;unfold Aqs at D;split at D
    .exact Rd.sc _ rfl
    .simp at D
  |_=>simp[U]at y
 |nilp=>
  cases c with
  |sc v'=>
   simp only[U]at y;cases D:Aqt v' with
   |false=>rw[D]at y;simp at y
   |true=>
    rw[D,h_]at y;simp[tk0]at y;subst y;have h0:Rd G _ _ (.sc v') _:=Q;cases h0;refine⟨?_,.nil⟩;unfold Aqt at D;split at D
    .exact Rd.sc _ rfl
    .simp at D
  |_=>simp[U]at y
 |lit k n=>
  cases c with
  |sc v'=>
   simp only[U]at y;cases D:Axj k n v' with
   |false=>rw[D]at y;simp at y
   |true=>
    rw[D,h_]at y;simp[tk0]at y;subst y;have h0:Rd G _ _ (.sc v') _:=Q;cases h0;refine⟨?_,.nil⟩;unfold Axj at D;split at D
    .rename_i k' m _;simp only[a_,t_]at D;have e:k=k':=by have h:=D.1;cases k<;>cases k'<;>first|rfl|(simp[Ei]at h)
     rw[e,D.2];exact Rd.sc _ rfl
    .simp at D
  |_=>simp[U]at y
 |np n tt=>
  cases c with
  |np n' t'=>
   simp only[U]at y;cases D:(aD n n'&&aD tt t')with
   |false=>rw[D]at y;simp at y
   |true=>rw[D,h_]at y;simp only[a_]at D;have e1:n=n':=AD.1 D.1;have e2:tt=t':=AD.1 D.2;subst e1;subst e2;simp[tk0]at y;subst y;exact⟨Q.imp (λh=>h)<|rn.rptr<|(ES H n).1 hf,.nil⟩
  |_=>simp[U]at y
 |sa n off len=>
  cases c with
  |sa n' F h7=>
   simp only[U]at y;cases D:(aD n n'&&(aD off F&&aD len h7))with
   |false=>rw[D]at y;simp at y
   |true=>rw[D,h_]at y;simp only[a_]at D;have e1:n=n':=AD.1 D.1;have e2:off=F:=AD.1 D.2.1;have e3:len=h7:=AD.1 D.2.2;subst e1;subst e2;subst e3;simp[tk0]at y;subst y;obtain⟨b,h1,h2⟩:=Q;obtain⟨b',g1,g2⟩:=rn.rptr ((ES H n).1 hf) (p:=(n,0)) ⟨b,h1,rfl⟩;cases g2;exact⟨⟨b,g1,h2⟩,.nil⟩
  |_=>simp[U]at y
 |clo f p q=>
  cases c with
  |clo f' p' q'=>
   simp only[U]at y;cases D:(aD f f'&&XQ p p'&&XQ q q')with
   |false=>rw[D]at y;simp at y
   |true=>rw[D,h_]at y;simp only[a_]at D;have e1:f=f':=AD.1 D.1.1;have e2:=Ajg D.1.2;have e3:=Ajg D.2;subst e1;subst e2;subst e3;simp[tk0]at y;subst y;simp only[CSh.fix,a_]at hf;obtain⟨vp,vq,h1,h2,h3⟩:=Q;exact⟨⟨vp,vq,h1,rn.rptrs hf.1 h2,rn.rptrs hf.2 h3⟩,.nil⟩
  |_=>simp[U]at y
def Wu(hr:HRel G ν S B h w):∀(s:List CSh) (cs:List<|Cv G.T) (t:Tk<|TL G s),Iq h s cs=A t->s.all (CSh.fix H)=N->Ren ν ν' S S' h H t.nm t.fz t.sh->∀vs:List Value,F2 (Rc G ν S w.heap) cs vs->
  F2 (Rc G ν' S' w.heap) (CZ s t.x) vs/\RowsOK G ν' S' w h t.nm (Adz s t.x)
 |[],[],t,k,_,_,vs,r=>by simp[Iq,tk0]at k;subst k;exact⟨by rw[r.inv_nil];exact .nil,.nil⟩
 |[],_::_,_,k,_,_,_,_=>by simp[Iq]at k
 |_::_,[],_,k,_,_,_,_=>by simp[Iq]at k
 |s::ss,c::cs,t,k,u,F,vs,r=>by
  simp only[Iq]at k;split at k
  .rename_i a b ha Q;simp at k;subst k;simp only[U_,a_]at u;obtain⟨v,p,rfl,R,y⟩:=r.inv;have h1:=CSh.take_sound hr ha u.1 F.left R;have D:=Wu hr ss cs b Q u.2 F.right p y;exact⟨D.1.cons h1.1,h1.2.append D.2⟩
  .simp at k
def PSh.take_sound(hr:HRel G ν S B h w){s:PSh}{c:Pv G.T}{t:Tk<|s.T G}(p:s.take h c=A t)(u:s.fix H=N)(y:Ren ν ν' S S' h H t.nm t.fz t.sh)(k:Rp G ν S w.heap c v):
  Rp G ν' S' w.heap (s.give t.x) v/\RowsOK G ν' S' w h t.nm (s.blk t.x):=by
 cases s with
 |one s=>
  cases k with
  |one c v k=>obtain⟨x,nm,fz,sh⟩:=t;have h1:=CSh.take_sound (ν':=ν') (S':=S') (H:=H) hr (s:=s) (t:=⟨x,nm,fz,sh⟩) p u y k;exact⟨Rp.one (s.give x) v h1.1,h1.2⟩
  |agg cs vs k=>exact absurd (show(C:Option<|Tk<|s.T G)=A t from p) σ
 |agg r=>
  cases k with
  |one c v k=>exact absurd (show(C:Option<|Tk<|TL G r)=A t from p) σ
  |agg cs vs k=>obtain⟨x,nm,fz,sh⟩:=t;have h1:=Wu (ν':=ν') (S':=S') (H:=H) hr r cs ⟨x,nm,fz,sh⟩ p u y vs k;exact⟨Rp.agg (CZ r x) vs h1.1,h1.2⟩
def UO(hr:HRel G ν S B h w){tm:List<|Nat×Sv G.T}{f:Nat->Value}(R:∀k s,Y tm k=A s->Rs G ν S w.heap s (f k)):∀(s:List<|Nat×PSh) (t:Tk<|TmT G s),Ig h tm s=A t->s.all (λp=>p.2.fix H)=N->
  Ren ν ν' S S' h H t.nm t.fz t.sh->(∀k v,Y (Jg s t.x) k=A v->Rs G ν' S' w.heap v (f k))/\RowsOK G ν' S' w h t.nm (ND s t.x)
 |[],t,r,_,_=>by simp[Ig,tk0]at r;subst r;exact⟨λk v h=>by simp[Jg,Y]at h,.nil⟩
 |p::ss,t,r,F,rn=>by
  simp only[Ig]at r;split at r
  .rename_i c hc;split at r
   .rename_i a b ha hb;simp at r;subst r;simp only[U_,a_]at F;have y:=R p.1 _ hc;generalize Q:f p.1=v0 at y;cases y with
    |p _ _ D=>
    obtain⟨g1,g2⟩:=PSh.take_sound hr ha F.1 rn.left D;obtain⟨g3,g4⟩:=UO hr R ss b hb F.2 rn.right;refine⟨λk v u=>?_,g2.append g4⟩;simp only[Jg,Y,Bj]at u;by_cases e:p.1=k
    .rw[if_pos e]at u;simp at u;subst u;rw[<-e,Q];exact .p _ _ g1
    .rw[if_neg e]at u;exact g3 k v u
   .simp at r
  .simp at r
def Bg7{h:Nat->Option (W G.T)}{a:Tk<|s.T G}(p:s.take h c=A a){m t:Nat}(r:s.give a.x=.np m t):c=.np m t:=by
 cases s with
 |np n tt=>
  have e:(CSh.np n tt).give a.x=(.np n tt:Cv G.T):=rfl;rw[e]at r;cases r;cases c with
  |np y u=>
   simp only[U]at p;cases k:(aD m y&&aD t u)with
   |false=>rw[k]at p;simp at p
   |true=>simp only[a_]at k;rw[<-AD.1 k.1,<-AD.1 k.2]
  |_=>simp[U]at p
 |_=>cases r
def Asd(h:Nat->Option (W G.T)):∀(s:List CSh) (cs:List<|Cv G.T) (a:Tk<|TL G s),Iq h s cs=A a->∀{m t:Nat},Cv.np m t∈CZ s a.x->Cv.np m t∈cs
 |[],[],a,_,m,t,k=>by simp[CZ]at k
 |[],_::_,a,p,_,_,_=>by simp[Iq]at p
 |_::_,[],a,p,_,_,_=>by simp[Iq]at p
 |s::u,c::cs,a,p,m,t,k=>by
  simp only[Iq]at p;split at p
  .rename_i x y D r;cases p;simp only[CZ,x_]at k;rcases k with k|k
   .rw[Bg7 D k.symm];simp
   .exact L_ _<|Asd h u cs y r k
  .simp at p
def UN(hr:HRel G ν S B h w):∀(s:List<|Nat×List CSh) (t:Tk<|HpT G s),Kh h s=A t->(∀n∈Ay s,n∈H)->s.all (λp=>p.2.all<|CSh.fix H)=N->
  Ren ν ν' S S' h H t.nm t.fz t.sh->(∀p∈Ib s t.x,Rb G ν' S' w.heap p.1 p.2)/\BB (Ib s t.x)=Ay s/\(∀n∈Ay s,∃cs,h n=A (.cells cs))/\RowsOK G ν' S' w h t.nm (SN s t.x)
 |[],t,k,_,_,_=>by simp[Kh,tk0]at k;subst k;exact⟨by simp[Ib],rfl,by simp[Ay],.nil⟩
 |p::ss,t,k,F,u,y=>by
  simp only[Kh]at k;split at k
  .rename_i cs Q;split at k
   .rename_i a b D hb;simp at k;subst k;simp only[U_,a_]at u;obtain⟨bb,c,te,R,q2,q3,q4⟩:=hr.blk p.1 _ Q;obtain⟨g1,g2⟩:=Wu hr p.2 cs a D u.1 y.left c.toList q3;obtain⟨g3,g5,g6,g4⟩:=UN hr ss b hb (λn r=>F n (by simp[Ay,r])) u.2 y.right;refine⟨λq hq=>?_,by simp only[Ib,BB,Ay,g5],λn r=>?_,g2.append g4⟩
    .simp only[Ib,x_]at hq;rcases hq with rfl|hq
     .exact⟨bb,c,te,by rw[y.keep _<|F _ (by simp[Ay])];exact R,q2,g1,λm t hm=>q4 m t<|Asd h p.2 cs a D hm⟩
     .exact g3 q hq
    .simp only[Ay,x_]at r;rcases r with rfl|r
     .exact⟨cs,Q⟩
     .exact g6 n r
   .simp at k
  .simp at k
end
end Go.Ab
namespace Go.Ab
variable{G:Sig}
variable{ρ:List (Nat×Option Nat)}{m:M (Ex×St G)}{j:Option (List (Ex×Spec))}{E:List (Ex×Spec)}{st st':St G}{e:Ex}{n:Nat}
def Jq:∀{l:List Nat},Ie l=N->l.Nodup
 |[],_=>by simp
 |n::t,h=>by simp only[Ie,a_,b2_]at h;refine List.nodup_cons.2 ⟨λk=>?_,Jq h.2⟩;rw[(ES t n).2 k]at h;simp at h
def XL:∀{a b:List Nat},XK a b=N->∀n∈a,n∉b
 |[],_,_,n,h=>by simp at h
 |m::t,b,h,n,k=>by
  simp only[XK,a_,b2_]at h;rcases x_.1 k with rfl|k
  .intro p;rw[(ES b n).2 p]at h;simp at h
  .exact XL h.2 n k
def Xw:∀{a:List Nat},Xv a=N->∀n∈a,n<lo
 |[],_,n,h=>by simp at h
 |m::t,h,n,k=>by
  simp only[Xv,a_]at h;rcases x_.1 k with rfl|k
  .have:=h.1;simp[aF]at this;omega
  .exact Xw h.2 n k
def Aft{us:List Nat}:∀{a:List Nat},Afs us a=N->∀n∈a,lo<=n->n∈us
 |[],_,n,h,_=>by simp at h
 |m::t,h,n,k,p=>by
  simp only[Afs,a_,V_]at h;rcases x_.1 k with rfl|k
  .rcases h.1 with h1|h1
   .simp[aF]at h1;omega
   .exact(ES us n).1 h1
  .exact Aft h.2 n k p
def RF{p:Nat×Option Nat}(h:p∈ρ):p.1∈DO ρ:=by
 induction ρ with
 |nil=>simp at h
 |cons q t k=>
  rcases x_.1 h with rfl|h
  .simp[DO]
  .simp[DO,k h]
def Ji{m:Nat}(h:(m,A n)∈ρ):n∈Eb ρ:=by
 induction ρ with
 |nil=>simp at h
 |cons q t p=>
  obtain⟨k,o⟩:=q;rcases x_.1 h with h1|h1
  .simp at h1;obtain⟨rfl,rfl⟩:=h1;simp[Eb]
  .have:=p h1
   cases o<;>simp[Eb,this]
def Alo(h:n∈DO ρ):∃o,(n,o)∈ρ:=by
 induction ρ with
 |nil=>simp[DO]at h
 |cons q t k=>
  simp only[DO,x_]at h;rcases h with rfl|h
  .exact⟨q.2,σ⟩
  .obtain⟨o,p⟩:=k h;exact⟨o,by simp[p]⟩
def Kb{α:Type}{l:List<|Nat×α}{x:α}(h:Y l n=A x):(n,x)∈l:=by
 induction l with
 |nil=>simp[Y]at h
 |cons q t p=>
  obtain⟨k,v⟩:=q;simp only[Y,Bj]at h;by_cases e:k=n
  .subst e;simp at h;subst h;simp
  .rw[if_neg e]at h;simp[p h]
def Au4(p:(DO ρ).Nodup){o:Option Nat}(h:(n,o)∈ρ):Y ρ n=A o:=by
 induction ρ with
 |nil=>simp at h
 |cons q t r=>
  obtain⟨k,v⟩:=q;simp only[DO,List.nodup_cons]at p;simp only[Y,Bj];rcases x_.1 h with h|h
  .simp at h;obtain⟨rfl,rfl⟩:=h;simp
  .have:k≠n:=λe=>p.1 (by rw[e];exact RF h)
   rw[if_neg this];exact r p.2 h
def Arh(u:(Eb ρ).Nodup){m y:Nat}(h:(m,A n)∈ρ)(h':(y,A n)∈ρ):m=y:=by
 induction ρ with
 |nil=>simp at h
 |cons q t F=>
  obtain⟨k,v⟩:=q;have p:(Eb t).Nodup/\(∀j,v=A j->j∉Eb t):=by
   cases v with
   |none=>exact⟨u,σ⟩
   |some j=>simp only[Eb,List.nodup_cons]at u;exact⟨u.2,λi D=>by simp at D;subst D;exact u.1⟩
  rcases x_.1 h with h1|h1<;>rcases x_.1 h' with r|r
  .simp at h1 r;rw[h1.1,r.1]
  .simp at h1;obtain⟨rfl,rfl⟩:=h1;exact absurd (Ji r)<|p.2 n rfl
  .simp at r;obtain⟨rfl,rfl⟩:=r;exact absurd (Ji h1)<|p.2 n rfl
  .exact F p.1 h1 r
def Vy{l:List<|Nat×W G.T}{p:Nat×W G.T}(h:p∈l):p.1∈BB l:=by
 induction l with
 |nil=>simp at h
 |cons q t k=>
  rcases x_.1 h with rfl|h
  .simp[BB]
  .simp[BB,k h]
def Spec.take_rel{cx:Cx}{s:Spec}{x:s.T G}(ht:s.take st=A x){a:Act}{w:World}(hi:Rel G cx st a w)(hl:∀n y,cx.nu0 n=A y->lo<=n):Rel G cx (s.mk' x) a w:=by
 obtain⟨ν,S,r⟩:=hi;unfold Spec.take at ht;split at ht
 .rename_i F tb hs hj;generalize hc:(s.tm.all (λp=>p.2.fix<|Ay s.hp)&&s.hp.all (λp=>p.2.all<|CSh.fix<|Ay s.hp)&&
   (Ie (DO (F.nm++tb.nm)++Ay s.hp)&&Xv (DO<|F.nm++tb.nm)&&Ie (Eb (F.nm++tb.nm)++Ay s.hp)&&XK (Eb (F.nm++tb.nm)++Ay s.hp) (F.fz++tb.fz)&&(Afg (F.nm++tb.nm) (F.sh++tb.sh)&&Afs s.us st.us)))=c at ht
  cases c with
  |false=>simp at ht
  |true=>
   have ht:(F.x,tb.x)=x:=r_ ht;subst ht;simp only[a_]at hc;obtain⟨⟨c1,c2⟩,⟨⟨⟨c3,c4⟩,c5⟩,c6⟩,c8,c7⟩:=hc;generalize he:F.nm++tb.nm=ρ at c3 c4 c5 c6 c8;generalize hv:F.sh++tb.sh=sh at c8;generalize hw:F.fz++tb.fz=fz at c6;have d3:=List.nodup_append.1<|Jq c3;have d5:=List.nodup_append.1<|Jq c5;have d4:=Xw c4;have d6:=XL c6;have d7:=Aft c7
   let ν':Nat->Option Value:=λn=>match Y ρ n with
    |some (A m)=>ν m
    |some C=>A<|.slice C 0 0
    |none=>if n∈Ay s.hp\/lo<=n then ν n else C
   let S':Nat->Prop:=λb=>S b\/∃n∈fz,Y st.hp n≠C/\∃y,ν n=A y/\AO y=A b
   have h7:∀p∈ρ,ν' p.1=match p.2 with|some n=>ν n|none=>A<|.slice C 0 0:=by intro p hp;simp only[ν',Au4 d3.1 hp];cases p.2<;>rfl
   have hf:∀n,n∉DO ρ->Y ρ n=C:=by
    intro n Q;cases hg:Y ρ n with
    |none=>rfl
    |some o=>exact absurd (RF<|Kb hg) Q
   have ha:∀n∈Ay s.hp,ν' n=ν n:=by
    intro n Q
    have:Y ρ n=C:=hf n λu=>d3.2.2 n u n Q rfl
    simp only[ν',this];rw[if_pos<|.inl Q]
   have rn:Ren ν ν' S S' (Y st.hp) (Ay s.hp) ρ fz sh:=⟨h7,ha,λn Q hh y b hy D=>.inr ⟨n,Q,hh,y,hy,D⟩,λb D=>.inl D,λp hp=>h7 _<|Abe c8 p hp⟩
   rw[<-he,<-hw,<-hv]at rn;obtain⟨g1,g2⟩:=UO r.heap r.slot s.tm F hs c1 rn.left;obtain⟨g3,g4,g5,g6⟩:=UN r.heap s.hp tb hj (λ_ h=>h) c2 rn.right;have h0:BB (ND s.tm F.x++(SN s.hp tb.x++Ib s.hp tb.x))=DO ρ++Ay s.hp:=by rw[GQ,GQ,g2.2.1,g6.2.1,g4,<-he,Uy,G_]
   have h9:∀n y b,Y (ND s.tm F.x++(SN s.hp tb.x++Ib s.hp tb.x)) n≠C->ν' n=A y->AO y=A b->
     ∃m,ν m=A y/\Y st.hp m≠C/\((n,A m)∈ρ\/(n∈Ay s.hp/\m=n)):=by
    intro n y b Q hy D;obtain⟨k,hk⟩:=Option.ne_none_iff_exists'.1 Q;have u:=Vy<|Kb hk;rw[h0]at u;rcases n_.1 u with u|u
    .obtain⟨o,ho⟩:=Alo u;have h1:=h7 _ ho;simp only at h1;cases o with
     |none=>rw[hy]at h1;simp at h1;subst h1;simp[AO]at D
     |some m=>
      refine⟨m,by rw[<-hy,h1],?_,.inl ho⟩;rw[<-he]at ho;rcases n_.1 ho with ho|ho
      .exact g2.2.2 _ ho m rfl
      .exact g6.2.2 _ ho m rfl
    .refine⟨n,by rw[<-ha n u];exact hy,?_,.inr ⟨u,rfl⟩⟩;obtain⟨cs,hu⟩:=g5 n u;rw[hu];simp
   refine⟨ν',S',⟨g1,⟨λn k hk=>?_,λn m y z b h1 h2 h3 h4 h5 h6=>?_,λn y b h1 h2 h3=>?_,λb D=>?_,r.heap.gl.mono (λ_ h=>.inl h) λ_ _=>rfl⟩,λn Q=>?_,r.defers,r.nt,r.size,r.frame,r.env,λb D=>?_,λb D=>.inl<|r.keep b D,λn y hy=>?_⟩⟩
   .have u:=Kb hk;rcases n_.1 u with u|u
    .exact g2.1 _ u
    .rcases n_.1 u with u|u
     .exact g6.1 _ u
     .exact g3 _ u
   .obtain⟨n1,q1,q2,R⟩:=h9 n y b h1 h3 h5;obtain⟨n2,p1,p2,p3⟩:=h9 m z b h2 h4 h6;have e:=r.heap.apart n1 n2 y z b q2 p2 q1 p1 h5 h6;subst e;rcases R with R|⟨R,q4⟩<;>rcases p3 with p3|⟨p3,p4⟩
    .exact Arh d5.1 R p3
    .exact absurd rfl<|d5.2.2 n1 (Ji R) n1 (by rw[p4];exact p3)
    .exact absurd rfl<|d5.2.2 n1 (Ji p3) n1 (by rw[q4];exact R)
    .exact q4.symm.trans p4
   .obtain⟨n1,q1,q2,R⟩:=h9 n y b h1 h2 h3;obtain⟨o1,o2⟩:=r.heap.own n1 y b q2 q1 h3;refine⟨?_,o2⟩;rintro(hS|⟨m,u,h8,z,hz,hd⟩)
    .exact o1 hS
    .have e:=r.heap.apart n1 m y z b q2 h8 q1 hz h3 hd;subst e;refine d6 n1 (n_.2 ?_) u;rcases R with R|⟨R,q4⟩
     .exact .inl<|Ji R
     .exact .inr (by rw[q4];exact R)
   .rcases D with D|⟨m,u,h8,z,hz,hd⟩
    .exact r.heap.stay b D
    .exact r.heap.lt h8 hz hd
   .show n∈BB _++s.us;rw[h0];cases hg:Y ρ n with
    |some o=>simp[RF<|Kb hg]
    |none=>
     simp only[ν',hg]at Q;by_cases hc:n∈Ay s.hp\/lo<=n
     .rw[if_pos hc]at Q;rcases hc with hc|hc
      .simp[hc]
      .have:=d7 n (r.used n Q) hc
       simp[this]
     .rw[if_neg hc]at Q;simp at Q
   .rcases D with D|⟨m,u,h8,z,hz,hd⟩
    .exact r.sub b D
    .exact .inr (r.heap.own m z b h8 hz hd).2
   .have h1:=r.names n y hy;have h2:=hl n y hy
    have:Y ρ n=C:=hf n λu=>by have:=d4 n u;omega
    simp only[ν',this];rw[if_pos<|.inr h2];exact h1
 .simp at ht
def Aun{k:Ex}(h:ZX e k=N):e=k:=by cases e<;>cases k<;>simp[ZX]at h<;>first|rfl|(rw[h])
def Amg{p:Ex×Spec}{y:p.2.T G}(h:Hu [p] e st=A y):e=p.1/\p.2.take st=A y:=by
 have h:(bif ZX e p.1 then p.2.take st else C)=A y:=h;generalize k:ZX e p.1=b at h;cases b with
 |false=>simp at h
 |true=>exact⟨Aun k,h⟩
def Amh{p q:Ex×Spec}{t:List<|Ex×Spec}{y:Sum (p.2.T G)<|Ev G<|q::t}(h:Hu (p::q::t) e st=A y):
  (∃x,y=.inl x/\e=p.1/\p.2.take st=A x)\/∃z,y=.inr z/\Hu (q::t) e st=A z:=by
 have h:(match bif ZX e p.1 then p.2.take st else C with
  |some x=>A<|Sum.inl x
  |none=>match Hu (q::t) e st with|some y=>A (.inr y)|none=>C)=A y:=h
 split at h
 .rename_i x k;generalize r:ZX e p.1=b at k;cases b with
  |false=>cases k
  |true=>exact .inl ⟨x,(r_ h).symm,Aun r,k⟩
 .split at h
  .rename_i z u;exact .inr ⟨z,(r_ h).symm,u⟩
  .cases h
def VO{cx:Cx}(u:∀n y,cx.nu0 n=A y->lo<=n){R:Type}:∀(E:List<|Ex×Spec) {e:Ex}{st:St G}{y:Ev G E},Hu E e st=A y->∀{a:Act}{w:World},Rel G cx st a w->∀(k:Ex×St G->Option R) (o:R),FZ E y k=A o->
  ∃st',k (e,st')=A o/\Rel G cx st' a w
 |[],_,_,y,_,_,_,_,_,_,_=>y.elim
 |[p],e,st,y,h,a,w,r,k,o,D=>by obtain⟨rfl,F⟩:=Amg h;exact⟨_,D,Spec.take_rel F r u⟩
 |p::q::t,e,st,y,h,a,w,r,k,o,D=>by
  rcases Amh h with⟨x,rfl,rfl,Q⟩|⟨z,rfl,F⟩
  .exact⟨_,D,Spec.take_rel Q r u⟩
  .exact VO u (q::t) F r k o D
def Afi:∀(E:List<|Ex×Spec) (y:Ev G E) (r:Ex) (st:St G),Hu E r st=A y->∀o,FZ E y A=A o->o.1=r
 |[],y,_,_,_,_,_=>y.elim
 |[p],y,r,st,h,o,k=>by obtain⟨rfl,_⟩:=Amg h;have k:A (p.1,p.2.mk' y)=A o:=k;rw[<-r_ k]
 |p::q::t,y,r,st,h,o,k=>by
  rcases Amh h with⟨x,rfl,rfl,D⟩|⟨z,rfl,u⟩
  .have k:A (p.1,p.2.mk' x)=A o:=k;rw[<-r_ k]
  .exact Afi (q::t) z r st u o k
def Baz(R:Law m)(h:Aps E m _ A=A (e,st')):
  ∃st,m _ A=A (e,st)/\∀{cx:Cx}(_:∀n y,cx.nu0 n=A y->lo<=n) {a:Act}{w:World},Rel G cx st a w->Rel G cx st' a w:=by
 unfold Aps at h;have hl:=R (Ev G E) λp=>Hu E p.1 p.2;rw[hl]at h;cases F:m _ A with
 |none=>rw[F]at h;simp at h
 |some p=>
  rw[F]at h;simp only[Option.bind]at h;cases k:Hu E p.1 p.2 with
  |none=>rw[k]at h;simp at h
  |some y=>rw[k]at h;simp only at h;have D:=Afi E y p.1 p.2 k _ h;simp at D;subst D;refine⟨p.2,rfl,λ{cx} u {a w} r=>?_⟩;obtain⟨Q,h1,h2⟩:=VO u E k r A _ h;simp at h1;subst h1;exact h2
def Oi{R:Type}:∀(E:List<|Ex×Spec) (y:Ev G E) (k:Ex×St G->Option R),FZ E y k=(FZ E y A).bind k
 |[],y,_=>y.elim
 |[p],y,k=>rfl
 |p::q::t,y,k=>by
  cases y with
  |inl x=>rfl
  |inr y=>exact Oi (q::t) y k
def Bfs:Law<|Aps E m:=by
 intro R k;unfold Aps;cases m _ (λp=>Hu E p.1 p.2)with
 |none=>rfl
 |some y=>exact Oi E y k
def Od(k:Law m):Law<|Ai6 j m:=by
 cases j with
 |none=>exact k
 |some E=>exact Bfs
def Mc(k:Law m)(h:Ai6 j m _ A=A (e,st')):
  ∃st,m _ A=A (e,st)/\∀{cx:Cx}(_:∀n y,cx.nu0 n=A y->lo<=n) {a:Act}{w:World},Rel G cx st a w->Rel G cx st' a w:=by
 cases j with
 |none=>exact⟨st',h,λ{_} _ {_ _} r=>r⟩
 |some E=>exact Baz k h
end Go.Ab
namespace Go.Ab
variable{G:Sig}
variable{ν:Nat->Option Value}{f:St G->M (Ex×St G)}{S:Nat->Prop}{st:St G}{w:World}{e:Exit}{a:Act}{x:Pv G.T}{id:Nat}
def Bl:Code->List Code
 |.seq a b=>Bl a++Bl b
 |.cond _ a b=>Bl a++Bl b
 |.block _ a=>Bl a
 |.loop a=>a::Bl a
 |_=>[]
def Ta:∀c:Code,Gy c=(Bl c).length:=by
 intro c;induction c with
 |seq a b p k=>simp[Gy,Bl,p,k]
 |cond x a b p k=>simp[Gy,Bl,p,k]
 |block n a r=>simp[Gy,Bl,r]
 |loop a r=>simp[Gy,Bl,r]
 |_=>rfl
def ExR:Ex->Exit->Prop
 |.normal,.normal=>True
 |.exit i,.exit j=>i=j
 |.ret,.ret=>True
 |_,_=>False
def KJ(h:ExR .normal e):e=.normal:=by cases e<;>first|rfl|exact h.elim
def XR{i:Nat}(h:ExR (.exit i) e):e=.exit i:=by cases e<;>first|exact h.elim|(have:i=_:=h;rw[this])
def Tm(h:ExR .ret e):e=.ret:=by cases e<;>first|rfl|exact h.elim
structure LoopOK(P:Program)(G:Sig)(nt:Nat)(f:St G->M (Ex×St G))(c:Code):Prop where
 law:∀st,Law (f st)
 wp:∀st ex st',f st (Ex×St G) some=some (ex,st')->∀(cx:Cx) (a:Act) (w:World) (Q:Exit->Act->World->Prop),cx.nt=nt->(∀n y,cx.nu0 n=some y->lo<=n)->Rel G cx st a w->
  (∀e a' w',ExR ex e->Rel G cx st' a' w'->Q e a' w')->(Code.loop c).wp P Q a w
structure DrawOK(P:Program)(G:Sig)(nt:Nat)(f:Array Oper->St G->M (St G)):Prop where
 law:∀ops st,Law (f ops st)
 wp:∀ops st st',f ops st (St G) some=some st'->∀(cx:Cx) (a:Act) (w:World) (id:Nat) (Q:Exit->Act->World->Prop),cx.nt=nt->Rel G cx st a w->
  (∀a' w',Rel G cx st' a' w'->Q .normal a' w')->(Code.region id ops true).wp P Q a w
def Adb:∀(ks:List Nat) (l:List<|Nat×Sv G.T) (k:Nat) (s:Sv G.T),Y (Ai7 l ks) k=A s->Y l k=A s
 |[],_,_,_,h=>h
 |n::t,l,k,s,h=>by
  have:=Adb t (del l n) k s h
  rw[WP]at this;by_cases e:n=k
  .simp[e]at this
  .simpa[e]using this
def Rel.kill{cx:Cx}(h:Rel G cx st a w)(ks:List Nat):Rel G cx (st.kill ks) a w:=
 let⟨ν,S,r⟩:=h
 ⟨ν,S,⟨λk s p=>r.slot k s<|Adb ks _ k s p,r.heap,r.used,r.defers,r.nt,r.size,r.frame,r.env,r.sub,r.keep,r.names⟩⟩
section
variable{P:Program}(ok:SigOK P G)(eqok:EqOK P G){cf:Ch G}(cfok:CfOK P G cf){nt:Nat}{drawn:Array Oper->St G->M (St G)}(dok:DrawOK P G nt drawn)
 {lp:Nat->St G->M (Ex×St G)}{kl:Nat->List Nat}{jn:Nat->Option (List (Ex×Spec))}
theorem Aqx(tm:List<|Nat×Sv G.T)(c:Operand):Law<|XI tm c:=by
 cases c with
 |tmp t=>
  intro R k;show Af8 tm t R k=(Af8 tm t _ A).bind k;unfold Af8;split
  .rename_i b _;cases b<;>rfl
  .rfl
 |const v=>show Law (Ann v);cases v<;>first|exact Af _|exact Ai
 |global g=>exact Ai
 |func f=>exact Ai
theorem Aqy(k:∀st,Law<|f st)(st:St G):Law<|Axw jn id f st:=by
 refine Ad (Od<|Af _) λp=>?_;split
 .exact k _
 .exact Ai
theorem VD{st':St G}{D:Ex}(h:Axw jn id f st _ A=A (D,st')):
  ∃k,f k _ A=A (D,st')/\∀{cx:Cx}{a:Act}{w:World},(∀n y,cx.nu0 n=A y->lo<=n)->Rel G cx st a w->Rel G cx k a w:=by
 obtain⟨⟨R,k⟩,h1,F⟩:=(Od<|Af _).spec<|aC h;obtain⟨Q,h0,p⟩:=Mc (Af _) h1;simp[J]at h0;obtain⟨rfl,rfl⟩:=h0;exact⟨k,F,λu r=>p u r⟩
include cfok dok in
theorem EN:∀(c:Code) (n:Nat) (st:St G),(∀(k:Nat) r,(Bl c)[k]?=A r->LoopOK P G nt (lp<|n+k) r)->Law (CA cf nt drawn lp kl jn n c st)
 |.skip,_,_,_=>Af _
 |.ret,_,_,_=>Af _
 |.exit _,_,_,_=>Af _
 |.seq a b,n,st,u=>by
  unfold CA;refine Ad (Od (EN a n st λk r y=>u k r ?_)) λp=>?_
  .simp only[Bl];rw[d2_ (f_.1 y).1];exact y
  .split
   .refine EN b _ _ λk r y=>?_;rw[Ta,Z_];refine u _ r ?_;simp only[Bl];rw[d7_ ω,b4_];exact y
   .exact Af _
 |.cond c a b,n,st,u=>by
  unfold CA;refine Ad (Aqx _ _) λp=>?_;split
  .refine EN a n _ λk r y=>u k r ?_;simp only[Bl];rw[d2_ (f_.1 y).1];exact y
  .refine EN b _ _ λk r y=>?_;rw[Ta,Z_];refine u _ r ?_;simp only[Bl];rw[d7_ ω,b4_];exact y
 |.block id a,n,st,u=>by unfold CA;refine Ad (EN a n st u) λp=>?_;split<;>exact Af _
 |.loop c,n,st,u=>(u 0 c rfl).law st
 |.region id ops false,_,st,_=>by unfold CA;exact Aqy (λst=>Od (Ad (SY (cx:=⟨default,λ_=>False,λ_=>False,λ_=>C,nt,[]⟩) cfok ops ops.toList st) λ_=>Af _)) st
 |.region id ops N,_,st,_=>Aqy (λst=>Od (Ad (dok.law _ _) λ_=>Af _)) st
 |.rangeFunc ..,_,_,_=>Ai
 |.scope _,_,_,_=>Ai
 |.label _,_,_,_=>Ai
 |.goto _,_,_,_=>Ai
 |.refuse _,_,_,_=>Ai
include ok eqok cfok dok in
theorem GD{cx:Cx}(R:cx.nt=nt)(u:∀n y,cx.nu0 n=A y->lo<=n):∀(c:Code) (n:Nat) (st st':St G) (ex:Ex) (a:Act) (w:World) (Q:Exit->Act->World->Prop),
  (∀(k:Nat) c',(Bl c)[k]?=A c'->LoopOK P G nt (lp<|n+k) c')->CA cf nt drawn lp kl jn n c st (Ex×St G) A=A (ex,st')->Rel G cx st a w->
  (∀e a' w',ExR ex e->Rel G cx st' a' w'->Q e a' w')->c.wp P Q a w
 |.skip,_,st,st',ex,a,w,Q,_,h,r,D=>by simp[CA,J]at h;obtain⟨rfl,rfl⟩:=h;exact wp_skip<|D _ _ _ trivial r
 |.ret,_,st,st',ex,a,w,Q,_,h,r,D=>by simp[CA,J]at h;obtain⟨rfl,rfl⟩:=h;exact wp_ret<|D _ _ _ trivial r
 |.exit i,_,st,st',ex,a,w,Q,_,h,r,D=>by simp[CA,J]at h;obtain⟨rfl,rfl⟩:=h;exact wp_exit<|D _ _ _ rfl r
 |.seq x y,n,st,st',ex,a,w,Q,hl,h,r,D=>by
  unfold CA at h;have h6:∀(k:Nat) c',(Bl x)[k]?=A c'->LoopOK P G nt (lp<|n+k) c':=λk c' hk=>hl k c' (by simp only[Bl];rw[d2_ (f_.1 hk).1];exact hk);obtain⟨⟨e1,h3⟩,h1,p⟩:=(Od<|EN cfok dok x n st h6).spec<|aC h;obtain⟨h7,h0,F⟩:=Mc (EN cfok dok x n st h6) h1;refine wp_seq (GD R u x n st h7 e1 a w _ h6 h0 r λe a' w' he ha=>?_);have r':=F u ha;cases e1 with
  |normal=>rw[KJ he];refine GD R u y (n+Gy x) h3 st' ex a' w' Q (λk c' hk=>?_) p r' D;rw[Ta,Z_];refine hl _ c' ?_;simp only[Bl];rw[d7_ ω,b4_];exact hk
  |exit i=>simp[J]at p;obtain⟨rfl,rfl⟩:=p;rw[XR he];exact D _ _ _ rfl r'
  |ret=>simp[J]at p;obtain⟨rfl,rfl⟩:=p;rw[Tm he];exact D _ _ _ trivial r'
 |.cond c x y,n,st,st',ex,a,w,Q,hl,h,r,D=>by
  unfold CA at h;obtain⟨⟨b,g⟩,hb,p⟩:=(Aqx st.tm c).spec<|aC h;have h8:a.eval c=.bool b/\Rel G cx (st.note g) a w:=by
   obtain⟨ν,S,r⟩:=r;cases c with
   |tmp t=>
    simp only[XI,Af8]at hb;split at hb
    .rename_i b0 hg
     have:(b0,A (t,b0))=(b,g):=by cases b0<;>simpa using hb
     simp at this;obtain⟨rfl,rfl⟩:=this;exact⟨Al8 r hg,ν,S,r.note hg⟩
    .simp at hb
   |const v=>
    cases v with
    |bool b0=>simp[XI,Ann,J]at hb;obtain⟨rfl,rfl⟩:=hb;exact⟨rfl,ν,S,r⟩
    |_=>simp[XI,Ann,I]at hb
   |global _=>simp[XI,I]at hb
   |func _=>simp[XI,I]at hb
  refine wp_cond h8.1 ?_;cases b with
  |true=>refine GD R u x n _ st' ex a w Q (λk c' hk=>hl k c' ?_) p h8.2 D;simp only[Bl];rw[d2_ (f_.1 hk).1];exact hk
  |false=>refine GD R u y (n+Gy x) _ st' ex a w Q (λk c' hk=>?_) p h8.2 D;rw[Ta,Z_];refine hl _ c' ?_;simp only[Bl];rw[d7_ ω,b4_];exact hk
 |.block id x,n,st,st',ex,a,w,Q,hl,h,r,D=>by
  unfold CA at h;obtain⟨⟨e1,h3⟩,h1,p⟩:=(EN cfok dok x n st hl).spec<|aC h;refine wp_block (GD R u x n st h3 e1 a w _ hl h1 r λe a' w' he r'=>?_);cases e1 with
  |normal=>simp[J]at p;obtain⟨rfl,rfl⟩:=p;rw[KJ he];exact D _ _ _ trivial r'
  |exit i=>
   simp only[J,Bj]at p;rw[XR he];by_cases hi:i=id
   .simp[hi]at p;obtain⟨rfl,rfl⟩:=p;simp only[Exit.inBlock,hi,if_true];exact D _ _ _ trivial r'
   .simp[hi]at p;obtain⟨rfl,rfl⟩:=p;simp only[Exit.inBlock,hi,f6_];exact D _ _ _ rfl r'
  |ret=>simp[J]at p;obtain⟨rfl,rfl⟩:=p;rw[Tm he];exact D _ _ _ trivial r'
 |.loop c,n,st,st',ex,a,w,Q,hl,h,r,D=>(hl 0 c rfl).wp st ex st' h cx a w Q R u r D
 |.region id ops false,_,st,st',ex,a,w,Q,_,h,r,D=>by unfold CA at h;subst R;obtain⟨h4,h,h5⟩:=VD h;have r:=h5 u r;have h9:=SY (cx:=cx) cfok ops ops.toList h4;obtain⟨h7,h0,F⟩:=Mc (Ad h9 λ_=>Af _) h;obtain⟨h3,h1,p⟩:=h9.spec<|aC h0;simp[J]at p;obtain⟨rfl,rfl⟩:=p;exact wp_region_list (Abc ok eqok cfok ops.toList h4 h3 a w h1 r λa' w' r'=>D _ _ _ trivial<|F u<|r'.kill _)
 |.region id ops N,_,st,st',ex,a,w,Q,_,h,r,D=>by unfold CA at h;obtain⟨h4,h,h5⟩:=VD h;have r:=h5 u r;obtain⟨h7,h0,F⟩:=Mc (Ad (dok.law ops h4) λ_=>Af _) h;obtain⟨h3,h1,p⟩:=(dok.law ops h4).spec<|aC h0;simp[J]at p;obtain⟨rfl,rfl⟩:=p;exact dok.wp ops h4 h3 h1 cx a w id Q R r λa' w' r'=>D _ _ _ trivial<|F u<|r'.kill _
 |.rangeFunc ..,_,_,_,_,_,_,_,_,h,_,_=>by simp[CA,I]at h
 |.scope _,_,_,_,_,_,_,_,_,h,_,_=>by simp[CA,I]at h
 |.label _,_,_,_,_,_,_,_,_,h,_,_=>by simp[CA,I]at h
 |.goto _,_,_,_,_,_,_,_,_,h,_,_=>by simp[CA,I]at h
 |.refuse _,_,_,_,_,_,_,_,_,h,_,_=>by simp[CA,I]at h
def Ax4(tmps:Array Value):ResultVar->Sem Value
 |.tmp t=>pure<|tmps.getD t undef
 |.cell a t=>do loadVar t<|<-asAddr (tmps.getD a undef)
theorem Caa{h:Array Obj}{v:Value}(r:Rs G ν S h (.p x) v):Rp G ν S h x v:=by cases r;assumption
include ok in
theorem Bkp{cx:Cx}(r:RelI G cx ν S st a w){rv:ResultVar}(h:QS st rv=A x):
  ∃v,(Ax4 a.tmps rv).run P w=.ok v w/\Rp G ν S w.heap x v:=by
 cases rv with
 |tmp t=>
  simp only[QS]at h;split at h
  .rename_i y hy;simp at h;subst h;exact⟨_,rfl,Caa<|r.slot t _ hy⟩
  .simp at h
 |cell b t=>
  simp only[QS]at h;split at h
  .rename_i c hc;split at h
   .rename_i cs h2;have hs:=r.slot b _ hc;generalize hu:a.tmps.getD b undef=u at hs;cases hs with
    |p _ _ hp=>
    cases hp with
    |one _ _ h1=>
    obtain⟨bb,off,vs,rfl,hf,k,D⟩:=Ahc ok r.heap h2 h1;have R:G.ty t≠ .no:=by
     intro e;rw[ok.nosz t e]at k
     have:cs=[]:=by have:=hf.1;rw[k]at this;exact S_ this
     subst this;simp[Sh,e,Ty.isAgg]at h
    refine⟨_,?_,QU h hf⟩;have F:(loadCells ⟨bb,off,C⟩ vs.length).run P w=.ok vs.toArray w:=run_loadCells_list (P:=P) w ⟨bb,off,C⟩ vs (λj v hj=>by rw[Ho];exact D j v hj);simp only[Ax4,hu,asAddr,loadVar,M_,a7_,u_,ok.isAgg w R];cases ha:(G.ty t).isAgg with
    |true=>simp only[if_true,M_,ok.sizeOf w R,u_,<-k,F,a7_]
    |false=>
     have Q:vs.length=1:=by
      simp only[Sh,ha,g_]at h;split at h
      .have:=hf.1;simpa using this.symm
      .simp at h
     obtain⟨u,rfl⟩:∃u,vs=[u]:=List.length_eq_one_iff.1 Q;have h0:=D 0 u rfl;simp only[d0_]at h0;simp[h0]
   .simp at h
  .simp at h
include ok in
theorem Ave{cx:Cx}{ν:Nat->Option Value}{S:Nat->Prop}{st:St G}{a:Act}{w:World}(r:RelI G cx ν S st a w):∀(rs:List ResultVar) (xs:List<|Pv G.T),Gg st rs=A xs->
  ∃vs:List Value,(rs.mapM<|Ax4 a.tmps).run P w=.ok vs w/\F2 (Rp G ν S w.heap) xs vs
 |[],xs,h=>by simp[Gg]at h;subst h;exact⟨[],rfl,.nil⟩
 |F::t,xs,h=>by
  simp only[Gg]at h;split at h
  .rename_i x l D y;simp at h;subst h;obtain⟨v,h1,p⟩:=Bkp ok r D;obtain⟨vs,u,k⟩:=Ave r t l y;exact⟨v::vs,by simp only[List.mapM_cons,M_,h1,u_,u,a7_],k.cons p⟩
  .simp at h
include ok in
theorem Atw{cx:Cx}(r:RelI G cx ν S st a w){fn:Func}{s:Sv G.T}(h:MX st fn.results.toList=A s):
  ∃v,(results fn a.tmps).run P w=.ok v w/\Rs G ν S w.heap s v:=by
 unfold MX at h;cases k:Gg st fn.results.toList with
 |none=>simp[k]at h
 |some xs=>
  obtain⟨vs,h1,D⟩:=Ave ok r _ xs k;have u:(results fn a.tmps).run P w=.ok (if h:vs.toArray.size=1 then vs.toArray[0]else .tuple vs.toArray) w:=by
   have e:results fn a.tmps=(do let vs <-fn.results.mapM (Ax4 a.tmps);pure (if h:vs.size=1 then vs[0]else .tuple vs)):=by unfold results;congr 1
   rw[e,M_,Array.mapM_eq_mapM_toList];simp only[Sem.run_map,h1];rfl
  refine⟨_,u,?_⟩;rw[k]at h;cases xs with
  |nil=>
   simp at h;subst h
   have:=D.inv_nil;subst this
   exact .tup _ _ .nil
  |cons x t=>
   cases t with
   |nil=>
    simp at h;subst h;obtain⟨v,F,rfl,Q,R⟩:=D.inv
    have:=R.inv_nil;subst this
    exact .p _ _ Q
   |cons y F=>
    simp at h;subst h;have hl:vs.toArray.size≠1:=by have:=D.1;simp at this|-;omega
    rw[dif_neg hl];exact .tup _ _ D
end
end Go.Ab
