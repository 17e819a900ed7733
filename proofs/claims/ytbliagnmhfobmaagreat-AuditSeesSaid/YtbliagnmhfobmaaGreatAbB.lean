/- Each operation: what the evaluator says, the model does. Third part: indices, slices, scalars. -/
import Derived.Test.YtbliagnmhfobmaaGreatAbA
import Derived.Maps.AppendAt
import Derived.Laws.BytesString
import Derived.Laws.Externs
namespace Go.Ab
variable {G:Sig}
def eqVs:List Value→List Value→Option Bool
 | [],[]=>some true
 | a :: as,b :: bs=>
  match eqV a b,eqVs as bs with
  | some x,some y=>some (x&&y)
  | _,_=>none
 | _,_=>none
structure EqOK (P:Program) (G:Sig):Prop where
 guard:∀ t,(G.ty t).isAgg=true→P.eqGuardType P.depth t=false
 eq:∀ t (xs ys:List Value) b w,(G.ty t).isAgg=true→eqTb G 20 t=true→mapK kindV xs=zk G t→mapK kindV ys=zk G t→eqVs xs ys=some b→(Op.equal t (.agg xs.toArray) (.agg ys.toArray)).run P w=.ok b w
section
variable {P:Program} {ν:Nat→Option Value} {S B:Nat→Prop} {h:Nat→Option (Blk G.T)} {w:World} {ρ:Operand→Value} {o:Oper}
variable (ok:SigOK P G) {ev:Operand→Option (Sv G.T)} (hev:∀ x s,ev x=some s→Rs G ν S w.heap s (ρ x)) (hr:HRel G ν S B h w) (hB:∀ b,w.heap.size≤b→B b)
 {cf:CallF G} {nm:Nat} {out:Out G} (hfresh:∀ n ∈ out.nw,ν n=none)
include hev hr ok
theorem nzg' {t:Nat} {x i:Operand} (ho:o.op=.indexAddr t x i) (hact:nct' ev h t x i (Out G) some=some out):Runs P G ρ o ν S B h w out:=by
 unfold nct' at hact;cases ht:G.ty t with
 | arr n e=>
  simp only [ht] at hact;obtain ⟨c,hc,hact⟩:=bindC hact;obtain ⟨k,j,hj,hact⟩:=bindI hact;obtain ⟨hu,he⟩:=ok.arr t n e ht;cases c with
  | ptr b off=>
   simp only [ixA] at hact;obtain ⟨hb,hact⟩:=M.bindneed hact;simp [M.ret] at hact; subst hact;obtain ⟨h0,h1⟩:=nkp' hb;obtain ⟨b',hb',hv⟩:=rcOf hev hc;have hρ:=(scOf hev hj).1;refine Runs.outP hr (v:=.pointer (some ⟨b',off + j.toNat * G.sz e,none⟩)) ?_ (.one _ _ ⟨by omega,b',hb',rfl⟩)
   unfold execOp; rw [ho];simp only [Instr.indexAt,hρ,asIntOf,Sem.run_bind,Sem.run_pure,Result.andThen_ok,run_underlying hu w,hv,Instr.sureAddr,Sem.run_ite,ok.sizeOf w he,nfj'];rw [if_pos ⟨h0,h1⟩]; rfl
  | pr b t' j' off=>
   simp only [ixA] at hact;obtain ⟨hb,hact⟩:=M.bindneed hact;simp [M.ret] at hact; subst hact;obtain ⟨h0,h1⟩:=nkp' hb;obtain ⟨b',len,cap,hb',hlt,hv⟩:=rcOf hev hc;have hρ:=(scOf hev hj).1;refine Runs.outP hr (v:=.pointer (some ⟨b',j' * G.sz t' + off + j.toNat * G.sz e,none⟩)) ?_ (.one _ _ ⟨b',len,cap,hb',hlt,by rw [Nat.add_assoc]⟩)
   unfold execOp; rw [ho];simp only [Instr.indexAt,hρ,asIntOf,Sem.run_bind,Sem.run_pure,Result.andThen_ok,run_underlying hu w,hv,Instr.sureAddr,Sem.run_ite,ok.sizeOf w he,nfj'];rw [if_pos ⟨h0,h1⟩]; rfl
  | rp t' x' off=>
   simp only [ixA] at hact;obtain ⟨hb,hact⟩:=M.bindneed hact;obtain ⟨cs,hcs,hact⟩:=M.bindopt hact;obtain ⟨y,hy,hact⟩:=M.bindopt hact;simp [M.ret] at hact; subst hact;obtain ⟨h0,h1⟩:=nkp' hb;have hρ:=(scOf hev hj).1;have hrd:Rd G S w.heap (.rp t' x' off) (ρ x):=rcOf hev hc;generalize hvx:ρ x=vx at hrd;cases hrd with
   | rp _ _ _ b base c te fz vs hS hbk hcc hrr=>
    simp only [nrw'] at hcs;obtain ⟨m1,m2⟩:=nbh' _ _ hcs
    have hcell:∀ q,q < G.sz e→∃ z,cs[q]?=some z∧(G.enc t' x')[off + j.toNat * G.sz e + q]?=some z:=by
     intro q hq;obtain ⟨z,hz,hf⟩:=m2 q q (by simp [hq])
     split at hf
     ·rename_i l hl
      obtain ⟨l1,l2⟩:=nbh' _ _ hl;have hil:j.toNat < l.length:=by simp at l1; omega
      have hsel:=ns4' hf hil;obtain ⟨y',hy',hq'⟩:=l2 j.toNat j.toNat (by rw [List.getElem?_range (by omega)])
      rw [hsel] at hy'; cases hy';exact ⟨z,hz,hq'⟩
     ·simp at hf
    have hen:=ok.encdec e cs y hy;refine Runs.outP hr (v:=.pointer (some ⟨b,base + off + j.toNat * G.sz e,none⟩)) ?_ (.one _ _ ?_)
    ·unfold execOp; rw [ho]
     simp only [Instr.indexAt,hρ,asIntOf,Sem.run_bind,Sem.run_pure,Result.andThen_ok,run_underlying hu w,hvx,Instr.sureAddr,Sem.run_ite,ok.sizeOf w he,nfj'];rw [if_pos ⟨h0,h1⟩]; rfl
    ·have:=Rd.rp (G:=G) (S:=S) (h:=w.heap) e y 0 b (base + off + j.toNat * G.sz e) c te fz (fun q=>vs (off + j.toNat * G.sz e + q)) hS hbk (fun q hq=>by
      obtain ⟨z,_,hz⟩:=hcell q hq;have hlt:=(List.getElem?_eq_some_iff.1 hz).1
      have:=ok.encl t' x'
      rw [← hcc _ (by omega)]; congr 1; omega) (fun q cv hq=>by
      rw [hen] at hq;have hqs:q < G.sz e:=by have:=(List.getElem?_eq_some_iff.1 hq).1; simp at m1; omega
      obtain ⟨z,hz1,hz2⟩:=hcell q hqs;rw [hz1] at hq; cases hq;exact hrr _ _ hz2)
     exact this
  | _=>simp [ixA,M.fail] at hact
 | sl e=>
  simp only [ht] at hact;obtain ⟨c,hc,hact⟩:=bindC hact;obtain ⟨k,j,hj,hact⟩:=bindI hact;obtain ⟨hu,he,_⟩:=ok.sl t e ht;have hρ:=(scOf hev hj).1
  have key:∀ (b off len cap:Nat),ρ x=.slice (some ⟨b,off,none⟩) len cap→0≤j→j < len →
    (execOp ρ o).run P w=.ok (.value (.pointer (some ⟨b,off + j.toNat * G.sz e,none⟩))) w:=by
   intro b off len cap hv h0 h1;unfold execOp; rw [ho];simp only [Instr.indexAt,hρ,asIntOf,Sem.run_bind,Sem.run_pure,Result.andThen_ok,run_underlying hu w,hv,Sem.run_ite,ok.sizeOf w he,nfj'];rw [if_pos ⟨h0,h1⟩]; rfl
  cases c with
  | own m=>
   simp only [ixS] at hact;cases hm:h m with
   | none=>simp [hm,M.fail] at hact
   | some blk=>
    cases blk with
    | cells cs=>simp [hm,M.fail] at hact
    | row e' l=>
     simp only [hm] at hact;obtain ⟨hee,ha1⟩:=M.bindneed hact;obtain ⟨hb,ha2⟩:=M.bindneed ha1;have hee':=nw'.1 hee;simp [M.ret] at ha2; subst ha2; subst hee';obtain ⟨h0,h1⟩:=nkp' hb;obtain ⟨a,len,cap,hνm,hv⟩:=rcOf hev hc;rcases hr.blk m _ hm with ⟨g1,g2⟩ | ⟨b,cap',c,te,g1,g2,g3,g4,g5⟩
     ·subst g2; simp at h1; omega
     ·rw [hνm] at g1; simp at g1; rw [g1] at hv hνm
      refine Runs.value hr rfl (v:=.pointer (some ⟨b,0 + j.toNat * G.sz e',none⟩)) (key b 0 _ _ g1 h0 h1) fun s hs=>?_
      simp at hs; subst hs;exact .p _ _ (.one _ _ ⟨b,_,_,hνm,by omega,by simp⟩)
  | ro e' l=>
   simp only [ixS] at hact;obtain ⟨hee,ha1⟩:=M.bindneed hact;obtain ⟨hb,ha2⟩:=M.bindneed ha1;have hee':=nw'.1 hee;simp [M.ret] at ha2; subst ha2; subst hee';obtain ⟨h0,h1⟩:=nkp' hb;have hrc:Rd G S w.heap (.ro e' l) (ρ x):=rcOf hev hc;generalize hu':ρ x=u at hrc;cases hrc with
   | nil _ a cap=>simp at h1; omega
   | ro _ _ b off cap c te fz vs hS hb' hcap hcell hrd=>
    have hi:j.toNat < l.length:=by omega
    refine Runs.outP hr (key b off _ _ hu' h0 h1) (.one _ _ ?_)
    have:=Rd.rp (G:=G) (S:=S) (h:=w.heap) e' (l.getD j.toNat (G.dfl e')) 0 b (off + j.toNat * G.sz e') c te fz (fun q=>vs j.toNat q) hS hb' (fun q hq=>by rw [hcell _ _ hi hq])
     (fun q cv hq=>hrd j.toNat q _ cv (by simp [hi]) hq)
    exact this
  | sa m off len=>
   simp only [ixS] at hact;obtain ⟨hb,ha1⟩:=M.bindneed hact;obtain ⟨_,_,ha2⟩:=M.pick_spec ha1;simp [M.ret] at ha2; subst ha2;obtain ⟨h0,h1⟩:=nkp' hb;obtain ⟨b,g1,g2⟩:=rcOf hev hc;exact Runs.outP hr (key b off _ _ g2 h0 h1) (.one _ _ ⟨b,g1,rfl⟩)
  | _=>simp [ixS,M.fail] at hact
 | _=>simp [ht,M.fail] at hact
theorem n7r' {t:Nat} {x i:Operand} (ho:o.op=.index t x i) (hact:nn2' ev t x i (Out G) some=some out):Runs P G ρ o ν S B h w out:=by
  unfold nn2' at hact;cases ht:G.ty t with
  | arr n e=>
    simp only [ht] at hact;obtain ⟨c,hc,hact⟩:=bindP hact;obtain ⟨k,j,hj,hact⟩:=bindI hact;have hrp:=rpOf hev hc;generalize hu:ρ x=u at hrp;cases hrp with
    | one c v hc'=>simp [ixArr,M.fail] at hact
    | agg ds vs hf2=>
    simp only [ixArr] at hact;obtain ⟨hb,hact⟩:=M.bindneed hact;obtain ⟨h0,h1⟩:=nkp' hb;obtain ⟨hun,he⟩:=ok.arr t n e ht;have hρ:=(scOf hev hj).1;have hpos:=ok.pos _ he
    have key:∃ cs y,pack G e cs=some y∧out=outP y∧cs.length=G.sz e∧∀ q,q < G.sz e→∃ z,cs[q]?=some z∧ds[j.toNat * G.sz e + q]?=some z:=by
     cases hca:cloAt ds with
     | true=>
      rw [hca] at hact;obtain ⟨_,_,hact⟩:=M.pick_spec hact;unfold ixFn at hact;obtain ⟨cs,hcs,hact⟩:=M.bindopt hact;obtain ⟨y,hy,hact⟩:=M.bindopt hact;simp [M.ret] at hact; subst hact;obtain ⟨p1,p2,p3⟩:=nko' hcs;exact ⟨cs,y,hy,rfl,p1,fun q hq=>⟨cs[q]'(by omega),List.getElem?_eq_getElem _,by rw [← p3 q hq]; exact List.getElem?_eq_getElem _⟩⟩
     | false=>
      rw [hca] at hact;obtain ⟨cs,hcs,hact⟩:=M.bindopt hact;obtain ⟨y,hy,hact⟩:=M.bindopt hact;simp [M.ret] at hact; subst hact;simp only [nrw'] at hcs;obtain ⟨m1,m2⟩:=nbh' _ _ hcs;refine ⟨cs,y,hy,rfl,by simpa using m1,fun q hq=>?_⟩
      obtain ⟨z,hz,hf⟩:=m2 q q (by simp [hq])
      split at hf
      · rename_i l hl
        obtain ⟨l1,l2⟩:=nbh' _ _ hl;have hil:j.toNat < l.length:=by simp at l1; omega
        have hsel:=ns4' hf hil;obtain ⟨z',hz',hg⟩:=l2 j.toNat j.toNat (by rw [List.getElem?_range (by omega)])
        rw [hsel] at hz'; cases hz';exact ⟨z,hz,hg⟩
      · cases hf
    obtain ⟨cs,y,hy,rfl,hcl,hcell⟩:=key;have hlen:=hf2.1
    have hle:j.toNat * G.sz e + G.sz e≤vs.length:=by
      obtain ⟨z,_,hz⟩:=hcell (G.sz e - 1) (by omega)
      have:=(List.getElem?_eq_some_iff.1 hz).1
      omega
    have hF:F2 (Rc G ν S w.heap) cs ((vs.drop (j.toNat * G.sz e)).take (G.sz e)):=by
      refine ⟨by simp; omega,fun i a b ha hb=>?_⟩
      have hi:i < G.sz e:=by have:=(List.getElem?_eq_some_iff.1 ha).1; omega
      obtain ⟨z,hz,hdz⟩:=hcell i hi;rw [hz] at ha; cases ha;rw [List.getElem?_take_of_lt hi,List.getElem?_drop] at hb;exact hf2.2 _ _ b hdz hb
    refine Runs.outP hr (v:=if (G.ty e).isAgg then .agg ((vs.drop (j.toNat * G.sz e)).take (G.sz e)).toArray else ((vs.drop (j.toNat * G.sz e)).take (G.sz e)).getD 0 undef) ?_ (nnl' hy hF)
    unfold execOp; rw [ho];simp only [Instr.index,hρ,asIntOf,Sem.run_bind,Sem.run_pure,Result.andThen_ok,run_underlying hun w,hu,Sem.run_ite,ok.sizeOf w he,Go.part,ok.isAgg w he];rw [if_pos ⟨h0,h1⟩];cases ha:(G.ty e).isAgg with
    | true=>simp
    | false=>
      have hlt:j.toNat * G.sz e < vs.length:=by omega
      rw [List.getD,List.getElem?_take_of_lt hpos];simp [hlt]
  | str=>
    simp only [ht] at hact;obtain ⟨c,hc,hact⟩:=bindC hact;obtain ⟨k,j,hj,hact⟩:=bindI hact;unfold ixV at hact;cases c with
    | sc v=>
      cases v with
      | string s=>
      obtain ⟨hb,hact⟩:=M.bindneed hact;simp [M.ret] at hact; subst hact;obtain ⟨h0,h1⟩:=nkp' hb;have hρ:=(scOf hev hj).1;have hρ':=(scOf hev hc).1;refine Runs.outV hr ?_ rfl
      have hlt:j.toNat < s.data.size:=by
        have:(s.size:Int)=s.data.size:=rfl
        omega
      have hget:(s[j.toNat]?:Option UInt8)=some (s.data[j.toNat]):=by
        have:j.toNat < s.size:=hlt
        simp [getElem?_pos,this]; rfl
      unfold execOp; rw [ho];simp only [Instr.index,hρ,hρ',asIntOf,Sem.run_bind,Sem.run_pure,Result.andThen_ok,run_underlying (ok.str t ht) w,h0,if_true,hget,nbj'];rw [Array.getD_eq_getD_getElem?,Array.getElem?_eq_getElem hlt];rfl
      | _=>simp [M.fail] at hact
    | _=>simp [M.fail] at hact
  | _=>simp [ht,M.fail] at hact
omit ok
theorem n11' {f:Nat} {a b:Array Operand} (ho:o.op=.makeFunc (.func f) a b) (hact:aFunc ev f a.toList b.toList (Out G) some=some out):Runs P G ρ o ν S B h w out:=by
 unfold aFunc at hact;obtain ⟨as,hact,ha⟩:=nyy' hact;obtain ⟨bs,hact,hb⟩:=nyy' hact;obtain ⟨as',ha',hact⟩:=M.bindopt hact;obtain ⟨bs',hb',hact⟩:=M.bindopt hact;simp [M.ret] at hact; subst hact
 have key:∀ (xs:List Operand) (ys:List (Pv G.T)) (zs:List (Nat×Nat)),F2 (fun x y=>ev x=some (.p y)) xs ys→mapO ptrOf ys=some zs→F2 (RPtr ν) zs (xs.map ρ):=by
  intro xs ys zs hF hm;obtain ⟨m1,m2⟩:=nbh' _ _ hm;refine ⟨by simp [m1,hF.1],fun i z v hz hv=>?_⟩
  rw [List.getElem?_map] at hv;cases hx:xs[i]? with
  | none=>simp [hx] at hv
  | some x=>
   simp [hx] at hv; subst hv;obtain ⟨y,hy,hxy⟩:=hF.get hx;obtain ⟨z',hz',hp⟩:=m2 i y hy;rw [hz] at hz'; simp at hz'; subst hz';unfold ptrOf at hp;split at hp
   ·rename_i n off
    simp at hp; subst hp;exact rcOf hev hxy
   ·simp at hp
 refine Runs.outP hr (v:=.func (.func f) (a.toList.map ρ).toArray (b.toList.map ρ).toArray) ?_ (.one _ _ ⟨_,_,rfl,key _ _ _ ha ha',key _ _ _ hb hb'⟩);unfold execOp; rw [ho];simp [Instr.makeFunc,← Array.toList_map]
omit hr
theorem npl' {R:Type} {r:R} {k:Nat→Option R} {d m:Nat} {x:Option Operand} (hx:ndi' ev d m x R k=some r) :
  ∃ n,k n=some r∧((x=none∧n=d)∨∃ y kd,x=some y∧ρ y=.int kd (n:Int)∧n≤m):=by
 cases x with
 | none=>exact ⟨d,hx,.inl ⟨rfl,rfl⟩⟩
 | some y=>
  unfold ndi' at hx;obtain ⟨kd,i,hi,hx⟩:=bindI hx;obtain ⟨hb,hx⟩:=M.bindneed hx;simp at hb
  have:=(scOf hev hi).1
  exact ⟨i.toNat,hx,.inr ⟨y,kd,rfl,by rw [this]; congr 1; omega,by omega⟩⟩
omit hev in
theorem nx0' {isS:Bool} {len cap m a b:Nat} {lo hi:Option Operand} (hb:(hi=none∧b=len)∨∃ y kd,hi=some y∧ρ y=.int kd (b:Int)∧b≤m) (hm:m≤cap)
  (ha:(lo=none∧a=0)∨∃ y kd,lo=some y∧ρ y=.int kd (a:Int)∧a≤b) :
  (Instr.sliceBounds isS len cap (lo.map ρ) (hi.map ρ) none).run P w=.ok (a,b,cap) w:=by
 have one:∀ (kd:IntKind) (n y:Nat) (code:BoundsCode),n≤y→(Instr.sliceBound (.int kd (n:Int)) y code).run P w=.ok n w:=by
  intro kd n y code hn
  have:(0:Int)≤(n:Int)∧(n:Int)≤(y:Int):=by omega
  simp [Instr.sliceBound,asIntOf,this]
 unfold Instr.sliceBounds;rcases hb with ⟨rfl,rfl⟩ | ⟨y,kd,rfl,hy,hyb⟩ <;> rcases ha with ⟨rfl,rfl⟩ | ⟨z,kd',rfl,hz,hza⟩
 ·simp
 ·simp [hz,one _ _ _ _ hza]
 ·simp [hy,one _ _ _ _ (Nat.le_trans hyb hm)]
 ·simp [hy,hz,one _ _ _ _ (Nat.le_trans hyb hm),one _ _ _ _ hza]
include hr ok
theorem n8s' {t:Nat} {x:Operand} {lo hi mx:Option Operand} (ho:o.op=.slice t x lo hi mx) (hact:nog' ev t x lo hi mx (Out G) some=some out):Runs P G ρ o ν S B h w out:=by
 unfold nog' at hact;cases mx with
 | some y=>simp [M.fail] at hact
 | none=>
 simp only at hact;cases ht:G.ty t with
 | str=>
  simp only [ht] at hact;obtain ⟨c,hc,hact⟩:=bindC hact;unfold nr8' at hact;cases c with
  | sc v=>
   cases v with
   | string s=>
    obtain ⟨b,h1,hb⟩:=npl' hev (M.bind_spec hact);obtain ⟨a,h2,ha⟩:=npl' hev (M.bind_spec h1);simp [M.ret] at h2; subst h2;have hρ:=(scOf hev hc).1;refine Runs.outV hr ?_ rfl;unfold execOp; rw [ho];simp only [Instr.sliceAt,Instr.slice,hρ,Sem.run_bind,Result.andThen_ok,run_underlying (ok.str t ht) w,Option.map_none];simp [nx0' (P:=P) (w:=w) (isS:=false) hb (Nat.le_refl _) ha]
   | _=>simp [M.fail] at hact
  | _=>simp [M.fail] at hact
 | sl e=>
  simp only [ht] at hact;obtain ⟨c,hc,hact⟩:=bindC hact;obtain ⟨hu,he,_⟩:=ok.sl t e ht;unfold nrz' at hact;cases c with
  | ro e' l=>
   obtain ⟨hee,h0⟩:=M.bindneed hact;have hee':=nw'.1 hee;obtain ⟨b,h1,hb⟩:=npl' hev (M.bind_spec h0);obtain ⟨a,h2,ha⟩:=npl' hev (M.bind_spec h1);simp [M.ret] at h2; subst h2; subst hee';have hbl:b≤l.length:=by rcases hb with ⟨_,rfl⟩ | ⟨_,_,_,_,hb⟩ <;> omega
   have hab:a≤b:=by rcases ha with ⟨_,rfl⟩ | ⟨_,_,_,_,ha⟩ <;> omega
   have hrun:∀ (a0:Option Addr) (cap:Nat),l.length≤cap→ρ x=.slice a0 l.length cap →
     (execOp ρ o).run P w=.ok (.value (.slice (if cap=a then a0 else a0.map (·.add (a * G.sz e'))) (b - a) (cap - a))) w:=by
    intro a0 cap hcap hv;unfold execOp; rw [ho];simp only [Instr.sliceAt,Instr.slice,hv,Sem.run_bind,Result.andThen_ok,run_underlying hu w,Option.map_none];simp [nx0' (P:=P) (w:=w) (isS:=true) hb hcap ha,ok.sizeOf w he]
   have hrc:Rd G S w.heap (.ro e' l) (ρ x):=rcOf hev hc;generalize hux:ρ x=u at hrc;have hll:((l.take b).drop a).length=b - a:=by simp; omega
   have fin:∀ v,Rd G S w.heap (.ro e' ((l.take b).drop a)) v→(execOp ρ o).run P w=.ok (.value v) w→Runs P G ρ o ν S B h w (outP (.one (.ro e' ((l.take b).drop a)))):=
    fun v hv hx=>Runs.outP hr hx (.one _ _ hv)
   cases hrc with
   | nil _ a0 cap=>
    have hb0:b=0:=by simpa using hbl
    have ha0:a=0:=by omega
    subst hb0; subst ha0;refine fin _ ?_ (hrun a0 cap (by simp) (by simpa using hux))
    simp; exact .nil _ _ _
   | ro _ _ bb off cap c te fz vs hS hb' hcap hcell hrd=>
    refine fin _ ?_ (hrun _ cap hcap hux);by_cases hz:b=a
    ·have:(l.take b).drop a=[]:=List.eq_nil_of_length_eq_zero (by rw [hll]; omega)
     rw [this,show b - a=0 by omega]
     exact .nil _ _ _
    ·rw [if_neg (by omega)]
     simp only [Option.map_some,nfj'];rw [← hll];refine .ro e' _ bb (off + a * G.sz e') (cap - a) c te fz (fun i j=>vs (a + i) j) hS hb' (by rw [hll]; omega) (fun i j hi hj=>?_) (fun i j x' cv hx' hcv=>?_)
     ·rw [hll] at hi
      rw [← hcell (a + i) j (by omega) hj]
      congr 1;rw [Nat.add_mul]; omega
     ·have hi:i < b - a:=by have:=(List.getElem?_eq_some_iff.1 hx').1; omega
      rw [List.getElem?_drop,List.getElem?_take_of_lt (by omega)] at hx'
      exact hrd (a + i) j x' cv hx' hcv
  | _=>simp [M.fail] at hact
 | arr n e=>
  simp only [ht] at hact;obtain ⟨c,hc,hact⟩:=bindC hact;obtain ⟨hu,he⟩:=ok.arr t n e ht;unfold n3f' at hact;cases c with
  | ptr b off=>
   cases lo with
   | some _=>simp [M.fail] at hact
   | none=>
    cases hi with
    | some _=>simp [M.fail] at hact
    | none=>
     simp [M.ret] at hact; subst hact;obtain ⟨b',hb',hv⟩:=rcOf hev hc;refine Runs.outP hr (v:=.slice (some ⟨b',off,none⟩) n n) ?_ (.one _ _ ⟨b',hb',rfl⟩);unfold execOp; rw [ho];simp [Instr.sliceAt,Instr.sliceBounds,hv,run_underlying hu w,ok.sizeOf w he,Instr.sureAddr,nfj']
  | _=>simp [M.fail] at hact
 | _=>simp [ht,M.fail] at hact
theorem ny2' {s t:Nat} {x:Operand} (ho:o.op=.convert s t x) (hs:(!isNo (G.ty s))=true) {c:Cv G.T} (hc:ev x=some (.p (.one c))) (h1:convC (G.ty t) c (Out G) some=some out):Runs P G ρ o ν S B h w out:=by
 have hsu:∃ d,P.underlying s=some d:=by
  cases hts:G.ty s with
  | no=>simp [hts,isNo] at hs
  | bool=>exact ⟨_,ok.bool s hts⟩
  | int k=>exact ⟨_,ok.int s k hts⟩
  | flt k=>exact ⟨_,ok.flt s k hts⟩
  | str=>exact ⟨_,ok.str s hts⟩
  | sl e=>exact ⟨_,(ok.sl s e hts).1⟩
  | pt e=>exact ⟨_,ok.pt s e hts⟩
  | fn=>obtain ⟨a,b,c,hd⟩:=ok.fn s hts; exact ⟨_,hd⟩
  | st fs=>obtain ⟨a,hd,_⟩:=ok.strc s fs hts; exact ⟨_,hd⟩
  | arr n e=>exact ⟨_,(ok.arr s n e hts).1⟩
 obtain ⟨d,hd⟩:=hsu;unfold convC at h1;cases c with
 | sc v=>
  have hρ:=(scOf hev hc).1;cases hty:G.ty t with
  | int k=>
   cases v with
   | int k' n=>
    simp [hty,M.ret] at h1; subst h1;refine Runs.outV hr ?_ rfl;unfold execOp; rw [ho];simp [Go.convert,hρ,run_underlying hd w,run_underlying (ok.int t k hty) w,Conv.intToInt]
   | _=>simp [hty,M.fail] at h1
  | str=>
   cases v with
   | string s'=>
    simp [hty,M.ret] at h1; subst h1;refine Runs.outV hr ?_ rfl;unfold execOp; rw [ho];simp [Go.convert,hρ,run_underlying hd w,run_underlying (ok.str t hty) w]
   | _=>simp [hty,M.fail] at h1
  | flt k=>
   cases v with
   | int k' n=>
    simp [hty,M.ret] at h1; subst h1;refine Runs.outV hr ?_ rfl;unfold execOp; rw [ho];simp [Go.convert,hρ,run_underlying hd w,run_underlying (ok.flt t k hty) w,Conv.intToFloat,nbec']
   | _=>simp [hty,M.fail] at h1
  | _=>simp [hty,M.fail] at h1
 | _=>simp [M.fail] at h1
end
end Go.Ab
namespace Go.Ab
variable {G:Sig}
theorem nbcm' {op:BinOp} {x y:Value} {R:Type} {k:Value→Option R} {r:R} (P:Program) (t:TypeId) (w:World) (h:bin op x y R k=some r) :
  ∃ v,k v=some r∧isSc v=true∧(binOp op t x y).run P w=.ok v w:=by
 cases x with
 | int a m=>
  cases y with
  | int b n=>
   have arith:∀ (f:Int) ,(M.bind (M.need (eqIK a b)) fun _=>M.ret (Value.int a f)) R k=some r→(a=b→(binOp op t (.int a m) (.int b n)).run P w=.ok (.int a f) w)→∃ v,k v=some r∧isSc v=true∧(binOp op t (.int a m) (.int b n)).run P w=.ok v w:=by
    intro f hf hrun;obtain ⟨he,h1⟩:=M.bindneed hf;exact ⟨_,h1,rfl,hrun (ndt' he)⟩
   cases op with
   | add=>exact arith _ h fun e=>by subst e; simp [binOp,Op.intArith]
   | sub=>exact arith _ h fun e=>by subst e; simp [binOp,Op.intArith]
   | mul=>exact arith _ h fun e=>by subst e; simp [binOp,Op.intArith]
   | quo=>
    simp only [bin,nn8'] at h;obtain ⟨he,h1⟩:=M.bindneed h;obtain ⟨hn,h2⟩:=M.bindneed h1;have e:=ndt' he; subst e;have hn':n ≠ 0:=by simpa using hn
    exact ⟨_,h2,rfl,by simp [binOp,Op.intDiv,hn']⟩
   | rem=>
    simp only [bin,nn8'] at h;obtain ⟨he,h1⟩:=M.bindneed h;obtain ⟨hn,h2⟩:=M.bindneed h1;have e:=ndt' he; subst e;have hn':n ≠ 0:=by simpa using hn
    exact ⟨_,h2,rfl,by simp [binOp,Op.intDiv,hn']⟩
   | shl=>
    simp only [bin,nn8'] at h;obtain ⟨he,h1⟩:=M.bindneed h;obtain ⟨q,hq,h2⟩:=M.bindopt h1;simp [shI] at hq; subst hq;have hb:¬ n < 0:=by simpa using he
    exact ⟨_,h2,rfl,by simp [binOp,Op.shift,hb]⟩
   | shr=>
    simp only [bin,nn8'] at h;obtain ⟨he,h1⟩:=M.bindneed h;obtain ⟨q,hq,h2⟩:=M.bindopt h1;simp [shI] at hq; subst hq;have hb:¬ n < 0:=by simpa using he
    exact ⟨_,h2,rfl,by simp [binOp,Op.shift,hb]⟩
   | and | or | xor | andNot=>
    simp only [bin,nn8'] at h;obtain ⟨he,h1⟩:=M.bindneed h;obtain ⟨q,hq,h2⟩:=M.bindopt h1;simp [bitI,noi'] at hq; subst hq;have e:=ndt' he; subst e;exact ⟨_,h2,rfl,by simp [binOp,Op.intBits]⟩
   | eql | neq | lss | leq | gtr | geq=>
    simp only [bin,nn8'] at h;obtain ⟨he,h1⟩:=M.bindneed h;obtain ⟨q,hq,h2⟩:=M.bindopt h1;simp [cmpI] at hq; subst hq;have e:=ndt' he; subst e;exact ⟨_,h2,rfl,by simp [binOp,Op.intCmp]⟩
  | _=>simp [bin,M.fail] at h
 | float a m=>
  cases y with
  | float b n=>
   cases op with
   | add | sub | mul | quo=>
    simp only [bin,nyw'] at h;obtain ⟨he,h1⟩:=M.bindneed h;obtain ⟨q,hq,h2⟩:=M.bindopt h1;have e:=nzn' he; subst e;rw [nbgo'] at hq;simp only [arG] at hq;exact ⟨_,h2,rfl,by simp [binOp,Op.floatArith,hq]⟩
   | _=>
    simp only [bin,nyw'] at h;obtain ⟨he,h1⟩:=M.bindneed h;obtain ⟨q,hq,h2⟩:=M.bindopt h1;have e:=nzn' he; subst e;simp [ordF] at hq <;> subst hq <;> exact ⟨_,h2,rfl,by simp [binOp,Op.floatCmp]⟩
  | _=>simp [bin,M.fail] at h
 | string a=>
  cases y with
  | string b=>
   cases op with
   | add=>
    simp only [bin,nyn'] at h;obtain ⟨he,h1⟩:=M.bindneed h;refine ⟨_,h1,rfl,?_⟩
    have:¬ (((a.size + b.size:Nat):Int) > IntKind.i64.max):=by
     have h2:=Nat.le_of_ble_eq_true he
     have:IntKind.i64.max=9223372036854775807:=rfl
     rw [this]; omega
    simp only [binOp,Op.stringOp,if_neg this]; rfl
   | eql | neq | lss | leq | gtr | geq=>exact ⟨_,h,rfl,by simp [binOp,Op.stringOp,eqB,ltB]⟩
   | _=>simp [bin,nyn',M.fail] at h
  | _=>simp [bin,M.fail] at h
 | _=>simp [bin,M.fail] at h
theorem n6x' {P:Program} {t:TypeId} (hu:P.underlying t=some .bool) (a b:Bool) (w:World):(Op.equal t (.bool a) (.bool b)).run P w=.ok (a==b) w:=by
 have key:∀ d:Nat,(Op.equalIn (d + 1) t (.bool a) (.bool b)).run P w=.ok (a==b) w:=fun d=>by simp [Op.equalIn,run_underlying hu]
 exact key 9999
section
variable {P:Program} {ν:Nat→Option Value} {S B:Nat→Prop} {h:Nat→Option (Blk G.T)} {w:World} {ρ:Operand→Value} {o:Oper}
variable (ok:SigOK P G) (eqok:EqOK P G) {ev:Operand→Option (Sv G.T)} (hev:∀ x s,ev x=some s→Rs G ν S w.heap s (ρ x)) (hr:HRel G ν S B h w) (hB:∀ b,w.heap.size≤b→B b)
 {cf:CallF G} {nm:Nat} {out:Out G} (hfresh:∀ n ∈ out.nw,ν n=none)
include hev hr
theorem nbe3' {op:UnOp} {t:Nat} {x:Operand} (ho:o.op=.unOp op t x) (hact:aUn ev op x (Out G) some=some out):Runs P G ρ o ν S B h w out:=by
 unfold aUn at hact;obtain ⟨c,hc,h1⟩:=bindC hact;unfold unP at h1;cases c with
 | sc v=>
  have hρ:=(scOf hev hc).1;cases op <;> cases v <;> simp [M.fail] at h1
  ·simp [M.ret] at h1; subst h1
   refine Runs.outV hr ?_ rfl;unfold execOp; rw [ho]; simp [hρ,Op.unary,Op.intArith]
  ·obtain ⟨q,hq,h2⟩:=M.bindopt h1
   simp [bitI,noi'] at hq; subst hq;simp [M.ret] at h2; subst h2;refine Runs.outV hr ?_ rfl;unfold execOp; rw [ho]; simp [hρ,Op.unary,Op.intBits]
  ·simp [M.ret] at h1; subst h1
   refine Runs.outV hr ?_ rfl;unfold execOp; rw [ho]; simp [hρ,Op.unary]
 | _=>cases op <;> simp [M.fail] at h1
include ok eqok
theorem nbd5' {op:BinOp} {t t':Nat} {x y:Operand} (ho:o.op=.binOp op t x y t') (hact:aBin ev op t x y (Out G) some=some out):Runs P G ρ o ν S B h w out:=by
 unfold aBin at hact;obtain ⟨a,ha,h1⟩:=bindP hact;obtain ⟨b,hb,h2⟩:=bindP h1;unfold binP at h2;cases a with
 | one c=>
  cases b with
  | one d=>
   cases c with
   | sc v=>
    cases d with
    | sc u=>
     simp only at h2;have hv:=scOf hev ha;have hu:=scOf hev hb
     have hnv:v ≠ .nilIface:=by
      rintro rfl;unfold binS at h2;generalize G.ty t=y at h2;cases y <;> simp [bin,M.bind,M.fail] at h2
     have hg:(eqGuard op t x y v u).run P w=.ok () w:=by
      unfold eqGuard;cases op <;> simp
      all_goals cases v <;> simp [isSc] at hv <;> (try exact absurd rfl hnv) <;> (try (cases u <;> simp [isSc] at hu)) <;> rfl
     have fin:∀ r,out=outV r→isSc r=true→(binOp op t v u).run P w=.ok r w→Runs P G ρ o ν S B h w out:=by
      rintro r rfl hr' hrun;refine Runs.outV hr ?_ hr';unfold execOp; rw [ho];simp [hv.1,hu.1,hg,hrun]
     have gen:(M.bind (bin op v u) fun r=>M.ret (outV r)) (Out G) some=some out→Runs P G ρ o ν S B h w out:=by
      intro hh;obtain ⟨r,h3,h4,h5⟩:=nbcm' P t w (M.bind_spec hh);simp [M.ret] at h3;exact fin r h3.symm h4 h5
     by_cases hbb:∃ a' b',G.ty t=.bool∧v=.bool a'∧u=.bool b'
     ·obtain ⟨a',b',hty,rfl,rfl⟩:=hbb
      have hub:=ok.bool t hty;simp only [binS,hty] at h2;cases op <;> simp [M.fail] at h2
      ·simp [M.ret] at h2
       exact fin _ h2.symm rfl (by simp only [binOp]; simp [n6x' hub])
      ·simp [M.ret] at h2
       exact fin _ h2.symm rfl (by simp only [binOp]; simp [n6x' hub])
     ·refine gen ?_
      unfold binS at h2;generalize hty:G.ty t=y at h2;cases y with
      | bool=>
       cases v <;> try exact h2
       cases u <;> try exact h2
       exact absurd ⟨_,_,hty,rfl,rfl⟩ hbb
      | _=>exact h2
    | _=>simp [M.fail] at h2
   | _=>cases d <;> simp [M.fail] at h2
  | agg ds=>simp [M.fail] at h2
 | agg cs=>
  cases b with
  | one d=>simp [M.fail] at h2
  | agg ds=>
   simp only at h2;obtain ⟨hagg0,h3⟩:=M.bindneed h2;obtain ⟨q,hq,h4⟩:=M.bindopt h3;simp only [Bool.and_eq_true,eqOn] at hagg0;obtain ⟨hagg,⟨hty,hk1⟩,hk2⟩:=hagg0;have hra:=rpOf hev ha;have hrb:=rpOf hev hb;generalize hu:ρ x=u at hra;generalize hu':ρ y=u' at hrb;cases hra with
   | agg _ vs hvs=>
   cases hrb with
   | agg _ us hus=>
   have key:∀ (cs ds:List (Cv G.T)) (vs us:List Value) (q:Bool),F2 (Rc G ν S w.heap) cs vs→F2 (Rc G ν S w.heap) ds us→nd2' cs ds=some q→eqVs vs us=some q:=by
    intro cs
    induction cs with
    | nil=>
     intro ds vs us q h1 h2 h3;cases ds with
     | nil=>simp [nd2'] at h3; rw [h1.inv_nil,h2.inv_nil,h3]; rfl
     | cons d ds=>simp [nd2'] at h3
    | cons c cs ih=>
     intro ds vs us q h1 h2 h3;cases ds with
     | nil=>cases c <;> simp [nd2'] at h3
     | cons d ds=>
      obtain ⟨v,vs',rfl,hv,hvs⟩:=h1.inv;obtain ⟨u,us',rfl,hu,hus⟩:=h2.inv;cases c with
      | sc v0=>
       cases d with
       | sc u0=>
        have ev:v=v0:=by have hv':Rd G S w.heap (.sc v0) v:=hv; cases hv'; rfl
        have eu:u=u0:=by have hu':Rd G S w.heap (.sc u0) u:=hu; cases hu'; rfl
        subst ev; subst eu;simp only [nd2'] at h3;split at h3
        ·rename_i x' y' hx hy
         have:=ih ds vs' us' y' hvs hus hy
         simp at h3;simp [eqVs,hx,this,h3]
        ·simp at h3
       | _=>simp [nd2'] at h3
      | _=>simp [nd2'] at h3
   have hEq:=key cs ds vs us q hvs hus hq
   have kin:∀ (cs:List (Cv G.T)) (vs:List Value) (ks:List Nat),F2 (Rc G ν S w.heap) cs vs→eqNs (mapK kindC cs) ks=true→(∀ k ∈ ks,k ≠ 0)→mapK kindV vs=ks:=by
    intro cs
    induction cs with
    | nil=>intro vs ks h1 h2 _; rw [h1.inv_nil]; cases ks <;> simp [mapK,eqNs] at h2 ⊢
    | cons c cs ih=>
     intro vs ks h1 h2 h3;obtain ⟨v,vs',rfl,hv,hvs⟩:=h1.inv;cases ks with
     | nil=>simp [mapK,eqNs] at h2
     | cons k ks=>
      simp only [mapK,eqNs,Bool.and_eq_true] at h2 ⊢;have hk:kindC c=k:=nw'.1 h2.1;have hne:=h3 k (by simp)
      cases c with
      | sc v0=>
       have ev:v=v0:=by have hv':Rd G S w.heap (.sc v0) v:=hv; cases hv'; rfl
       subst ev;rw [ih vs' ks hvs h2.2 fun k' hk'=>h3 k' (by simp [hk'])]
       have hk:kindV v=k:=hk;rw [hk]
      | _=>exact absurd hk.symm hne
   have hz:∀ k ∈ zk G t,k ≠ 0:=by
    have all:∀ (cs ds:List (Cv G.T)) (q:Bool) (ks:List Nat),nd2' cs ds=some q→eqNs (mapK kindC cs) ks=true→∀ k ∈ ks,k ≠ 0:=by
     intro cs
     induction cs with
     | nil=>intro ds q ks _ h2 k hk; cases ks <;> simp [mapK,eqNs] at h2 hk
     | cons c cs ih=>
      intro ds q ks h1 h2 k hk;cases ks with
      | nil=>simp at hk
      | cons k0 ks=>
       simp only [mapK,eqNs,Bool.and_eq_true] at h2;cases ds with
       | nil=>cases c <;> simp [nd2'] at h1
       | cons d ds=>
        cases c with
        | sc v0=>
         cases d with
         | sc u0=>
          simp only [nd2'] at h1;split at h1
          ·rename_i x' y' hx hy
           rcases List.mem_cons.1 hk with rfl | hk
           ·have h0:kindV v0=k:=nw'.1 h2.1
            intro hk0;rw [hk0] at h0;cases v0 with
            | float k' n=>cases k' <;> simp [kindV] at h0
            | int k' n=>cases k' <;> simp [kindV] at h0
            | bool b=>simp [kindV] at h0
            | string b=>simp [kindV] at h0
            | _=>simp [eqV] at hx
           ·exact ih ds y' ks hy h2.2 k hk
          ·simp at h1
         | _=>simp [nd2'] at h1
        | _=>simp [nd2'] at h1
    exact all cs ds q _ hq hk1
   have hrun:=eqok.eq t vs us q w hagg hty (kin cs vs _ hvs hk1 hz) (kin ds us _ hus hk2 hz) hEq
   have hg:(eqGuard op t x y (.agg vs.toArray) (.agg us.toArray)).run P w=.ok () w:=by
    unfold eqGuard;cases op <;> simp [eqok.guard t hagg]
   cases op with
   | eql=>
    simp [M.ret] at h4; subst h4;refine Runs.outV hr (v:=.bool q) ?_ rfl;unfold execOp; rw [ho];simp [hu,hu',hg,binOp,hrun]
   | neq=>
    simp [M.ret] at h4; subst h4;refine Runs.outV hr (v:=.bool (!q)) ?_ rfl;unfold execOp; rw [ho];simp [hu,hu',hg,binOp,hrun]
   | _=>simp [M.fail] at h4
end
end Go.Ab
namespace Go.Ab
variable {G:Sig}
theorem nkw':∀ (l:List Nat) (h:Nat→Option (Blk G.T)) (n:Nat),appD h (goneD l) n=if n ∈ l then none else h n
 | [],h,n=>by simp [goneD,appD]
 | m :: t,h,n=>by
  simp only [goneD,appD,nkw' t];by_cases h1:n ∈ t
  ·simp [h1]
  ·by_cases h2:n=m
   ·simp [h2]
   ·simp [h1,h2,Ne.symm h2]
theorem nu9' {v:Value} (h:nn5' v=true):v=.slice none 0 0:=by
 unfold nn5' at h;split at h
 ·rfl
 ·simp at h
theorem ns0' {t t':Nat} {l:List (G.T t)} {l':List (G.T t')} (h:castL G t t' l=some l'):∃ e:t=t',e ▸ l=l':=by
 unfold castL at h;split at h
 ·rename_i e; simp at h; exact ⟨e,h⟩
 ·simp at h
theorem nw1' (h:Nat→Option (Blk G.T)):∀ (d e:List (Nat×Option (Blk G.T))),appD h (d++e)=appD (appD h d) e
 | [],_=>rfl
 | p :: d,e=>by obtain ⟨n,ob⟩:=p; exact nw1' _ d e
section
variable {ν:Nat→Option Value} {S B:Nat→Prop} {h:Nat→Option (Blk G.T)} {w:World}
def frzS (ν:Nat→Option Value) (S:Nat→Prop) (h:Nat→Option (Blk G.T)) (fz:List Nat) (b:Nat):Prop:=S b∨∃ n ∈ fz,h n ≠ none∧∃ y,ν n=some y∧blkOf y=some b
theorem HRel.frz (hr:HRel G ν S B h w) (fz:List Nat):HRel G ν (frzS ν S h fz) B (appD h (goneD fz)) w:=by
 have hsub:∀ n,appD h (goneD fz) n ≠ none→n ∉ fz∧h n ≠ none:=by
  intro n hn;rw [nkw'] at hn;by_cases e:n ∈ fz
  ·simp [e] at hn
  ·rw [if_neg e] at hn; exact ⟨e,hn⟩
 refine ⟨fun n k hk=>?_,fun n m x y b hn hm=>hr.apart n m x y b (hsub n hn).2 (hsub m hm).2,fun n x b hn hx hb=>⟨?_,(hr.own n x b (hsub n hn).2 hx hb).2⟩,fun b hb=>?_,hr.gl.mono (fun _ h=>.inl h) fun _ _=>rfl⟩
 ·have hn:=hsub n (by rw [hk]; simp)
  rw [nkw',if_neg hn.1] at hk;exact (hr.blk n k hk).mono ⟨fun _ _ h=>h,fun _ h=>.inl h,fun _ _=>rfl⟩ fun _ _ _ _=>rfl
 ·rintro (hS | ⟨m,hm,hm2,y,hy,hyb⟩)
  ·exact (hr.own n x b (hsub n hn).2 hx hb).1 hS
  ·have:=hr.apart n m x y b (hsub n hn).2 hm2 hx hy hb hyb
   subst this;exact (hsub n hn).1 hm
 ·rcases hb with hS | ⟨m,_,hm2,y,hy,hyb⟩
  ·exact hr.stay b hS
  ·exact hr.lt hm2 hy hyb
theorem nbdy' (hr:HRel G ν S B h w) {fz:List Nat} {b:Nat} (hb:frzS ν S h fz b):S b∨B b:=by
 rcases hb with hS | ⟨m,_,hm2,y,hy,hyb⟩
 ·exact .inl hS
 ·exact .inr (hr.own m y b hm2 hy hyb).2
theorem Post.frz {out out1:Out G} {fz:List Nat} {hp':Nat→Option (Blk G.T)} {ν':Nat→Option Value} {S':Nat→Prop} {w':World} {v:Value} (hr:HRel G ν S B h w) (hv:out.v=out1.v) (hn:out.nw=out1.nw)
  (p:Post G ν (frzS ν S h fz) B (appD h (goneD fz)) w out1 hp' ν' S' w' v):Post G ν S B h w out hp' ν' S' w' v:=by
 refine ⟨p.nu,by rw [hn]; exact p.new,fun b hb=>p.st b (.inl hb),fun b hb=>?_,p.rel,by rw [hv]; exact p.val,p.size,fun b hb hf=>p.frame b hb fun n x hn hx=>hf n x ?_ hx,p.env⟩
 ·rcases p.stn b hb with h1 | h1
  ·exact nbdy' hr h1
  ·exact .inr h1
 ·rw [nkw'] at hn
  by_cases e:n ∈ fz
  ·simp [e] at hn
  ·rwa [if_neg e] at hn
theorem nbaf' (hr:HRel G ν S B h w) {want c:Cv G.T} {q:Cv G.T×List Nat} (hq:frzC h want c=some q) {fz:List Nat} (hfz:∀ n ∈ q.2,n ∈ fz) {v:Value} (hc:Rc G ν S w.heap c v):Rc G ν (frzS ν S h fz) w.heap q.1 v:=by
 have hm:∀ {c:Cv G.T},Rc G ν S w.heap c v→Rc G ν (frzS ν S h fz) w.heap c v:=fun r=>r.mono ⟨fun _ _ h=>h,fun _ h=>.inl h,fun _ _=>rfl⟩
 unfold frzC at hq;split at hq
 ·rename_i e l0 n
  split at hq
  ·rename_i t l hn
   split at hq
   ·rename_i l' hl
    obtain ⟨rfl,rfl⟩:=ns0' hl;simp at hq; subst hq;obtain ⟨av,len,cap,hν,rfl⟩:=hc;rcases hr.blk n _ hn with ⟨h1,h2⟩ | ⟨b,cap',c,te,h1,h2,h3,h4,h5⟩
    ·rw [hν] at h1; simp at h1; obtain ⟨rfl,rfl,rfl⟩:=h1
     subst h2;exact Rd.nil _ _ _
    ·rw [hν] at h1; simp at h1; obtain ⟨rfl,rfl,rfl⟩:=h1
     have hSb:frzS ν S h fz b:=.inr ⟨n,hfz n (by simp),by rw [hn]; simp,_,hν,rfl⟩
     show Rd G (frzS ν S h fz) w.heap (.ro t l) _;refine .ro t l b 0 cap c te (0,0) (fun i j=>c.getD (i * G.sz t + j) undef) hSb h2 h3 (fun i j hi hj=>?_) (fun i j x cv hx hcv=>?_)
     ·have hm:(i + 1) * G.sz t≤cap * G.sz t:=Nat.mul_le_mul_right _ (by omega)
      rw [Nat.add_mul] at hm;have hlt:i * G.sz t + j < c.size:=by omega
      rw [Nat.zero_add]; simp [hlt]
     ·obtain ⟨v,hv,hrd⟩:=h5.1 i j x cv hx hcv
      have:c.getD (i * G.sz t + j) undef=v:=by rw [Array.getD_eq_getD_getElem?,hv]; rfl
      rw [this];exact hrd.mono (fun _ h=>.inl h) fun _ _=>rfl
   ·simp at hq
  ·simp at hq
 ·rename_i e l0 u
  simp at hq; subst hq;cases hk:nn5' u with
  | false=>exact hm hc
  | true=>
   have hu:=nu9' hk; subst hu;have hv:v=.slice none 0 0:=by have hc:Rd G S w.heap (.sc (.slice none 0 0)) v:=hc; cases hc; rfl
   subst hv;exact Rd.nil _ _ _
 ·simp at hq; subst hq; exact hm hc
theorem nuf' (hr:HRel G ν S B h w):∀ {ws cs:List (Cv G.T)} {q:List (Cv G.T)×List Nat},frzL h ws cs=some q→∀ {fz:List Nat},(∀ n ∈ q.2,n ∈ fz)→∀ {vs:List Value},F2 (Rc G ν S w.heap) cs vs→F2 (Rc G ν (frzS ν S h fz) w.heap) q.1 vs
 | [],[],q,hq,_,_,vs,hc=>by
  simp [frzL] at hq; subst hq;rw [hc.inv_nil]; exact .nil
 | w0 :: ws,c :: cs,q,hq,fz,hfz,vs,hc=>by
  unfold frzL at hq;split at hq
  ·rename_i a b ha hb
   simp at hq; subst hq;obtain ⟨y,t,rfl,h1,h2⟩:=hc.inv;exact .cons (nbaf' hr ha (fun n hn=>hfz n (by simp [hn])) h1) (nuf' hr hb (fun n hn=>hfz n (by simp [hn])) h2)
  ·simp at hq
 | [],_ :: _,_,hq,_,_,_,_=>by simp [frzL] at hq
 | _ :: _,[],_,hq,_,_,_,_=>by simp [frzL] at hq
end
theorem nbel' {h h':Nat→Option (Blk G.T)} {want c:Cv G.T} {q:Cv G.T×List Nat} (hq:frzC h want c=some q) (hh:∀ n ∈ q.2,h' n=h n):frzC h' want c=some q:=by
 unfold frzC at hq ⊢;split at hq
 ·rename_i e l0 n
  split at hq
  ·rename_i t l hn
   split at hq
   ·rename_i l' hl
    simp at hq; subst hq;rw [hh n (by simp),hn]
    simp only [hl]
   ·simp at hq
  ·simp at hq
 ·exact hq
 ·exact hq
theorem nwz' {h h':Nat→Option (Blk G.T)}:∀ {ws cs:List (Cv G.T)} {q:List (Cv G.T)×List Nat},frzL h ws cs=some q→(∀ n ∈ q.2,h' n=h n)→frzL h' ws cs=some q
 | [],[],q,hq,_=>by simpa [frzL] using hq
 | w0 :: ws,c :: cs,q,hq,hh=>by
  unfold frzL at hq ⊢;split at hq
  ·rename_i a b ha hb
   simp at hq; subst hq;rw [nbel' ha fun n hn=>hh n (by simp [hn]),nwz' hb fun n hn=>hh n (by simp [hn])]
  ·simp at hq
 | [],_ :: _,_,hq,_=>by simp [frzL] at hq
 | _ :: _,[],_,hq,_=>by simp [frzL] at hq
end Go.Ab
namespace Go.Ab
variable {G:Sig}
theorem nz7' (off:Nat):∀ (vs:List Value) (k:Nat) (cs:Array Value),off + k + vs.length≤cs.size →
  ((vs.zipIdx k).foldl (fun (cs:Array Value) p=>cs.setIfInBounds (off + p.2) p.1) cs).size=cs.size ∧
  ∀ j,((vs.zipIdx k).foldl (fun (cs:Array Value) p=>cs.setIfInBounds (off + p.2) p.1) cs)[j]?=if off + k≤j∧j < off + k + vs.length then vs[j - (off + k)]? else cs[j]?
 | [],k,cs,_=>by simp; intro j h1 h2; omega
 | v :: vs,k,cs,h=>by
  simp only [List.length_cons] at h;obtain ⟨h1,h2⟩:=nz7' off vs (k + 1) (cs.setIfInBounds (off + k) v) (by simp; omega)
  simp only [List.zipIdx_cons,List.foldl_cons,List.length_cons];refine ⟨by rw [h1]; simp,fun j=>?_⟩
  rw [h2 j];simp only [Array.getElem?_setIfInBounds];by_cases hj:off + k=j
  ·subst hj
   rw [if_neg (by omega),if_pos rfl,if_pos (by omega),if_pos (by omega)]
   simp
  ·by_cases hr:off + (k + 1)≤j∧j < off + (k + 1) + vs.length
   ·rw [if_pos hr,if_pos (by omega),show j - (off + k)=(j - (off + (k + 1))) + 1 by omega]; simp
   ·rw [if_neg hr,if_neg hj,if_neg (by omega)]
theorem npk' {R:Cv G.T→Value→Prop} {place:Nat→Option (Nat×Nat)}:∀ (ps:List (Nat×Pv G.T)) (qs:List (Nat×Value)) (cells:List (Cv G.T)) (cs:Array Value) (cells':List (Cv G.T)),
  F2 R cells cs.toList→F2 (fun p q=>p.1=q.1∧F2 R p.2.cells q.2.cells.toList) ps qs→fillO place cells ps=some cells' →
  ∃ cs',Instr.fill place cs qs=some cs'∧F2 R cells' cs'.toList
 | [],qs,cells,cs,cells',hc,hp,h=>by
  simp [fillO] at h; subst h;rw [hp.inv_nil];exact ⟨cs,rfl,hc⟩
 | (i,v) :: ps,qs,cells,cs,cells',hc,hp,h=>by
  obtain ⟨⟨j,u⟩,qs',rfl,⟨rfl,hvu⟩,hp'⟩:=hp.inv;simp only [fillO] at h;split at h
  ·rename_i off size hpl
   rw [nbn'] at h;by_cases hs:v.cells.length=size
   ·rw [if_pos hs] at h
    split at h
    ·rename_i cells1 hsp
     obtain ⟨s1,s2,s3⟩:=nfv' _ _ _ _ hsp;have hl:=hc.1;have hl':=hvu.1;simp only [Array.length_toList] at hl hl';have hF:=nz7' off u.cells.toList 0 cs (by simp; omega)
     have hnext:F2 R cells1 ((u.cells.toList.zipIdx).foldl (fun (cs:Array Value) p=>cs.setIfInBounds (off + p.2) p.1) cs).toList:=by
      refine ⟨(by rw [s1,hl]; exact hF.1.symm),fun q x y hx hy=>?_⟩
      rw [s3 q] at hx;rw [Array.getElem?_toList,hF.2 q] at hy;by_cases hq:off≤q∧q < off + v.cells.length
      ·rw [if_pos hq] at hx
       rw [if_pos (by simp; omega)] at hy
       exact hvu.2 _ x y hx (by simpa using hy)
      ·rw [if_neg hq] at hx
       rw [if_neg (by simp; omega)] at hy
       exact hc.2 q x y hx (by simpa using hy)
     obtain ⟨cs',h1,h2⟩:=npk' ps qs' cells1 _ cells' hnext hp' h;refine ⟨cs',?_,h2⟩;simp only [Instr.fill,hpl];rw [if_neg (by simp; omega)]
     rw [← h1];congr 1;rw [← Array.foldl_toList];simp
    ·simp at h
   ·rw [if_neg hs] at h; simp at h
  ·simp at h
theorem nuk' {P:Program} (ok:SigOK P G) {e:Nat}:∀ (n:Nat) (cs:List (Cv G.T)) (l:List (G.T e)),rows G e n cs=some l →
  l.length=n∧cs.length=n * G.sz e∧∀ (i j:Nat) x,l[i]?=some x→j < (G.enc e x).length→(G.enc e x)[j]?=cs[i * G.sz e + j]?
 | 0,[],l,h=>by simp [rows] at h; subst h; simp
 | 0,_ :: _,l,h=>by simp [rows] at h
 | n + 1,cs,l,h=>by
  simp only [rows] at h;split at h
  ·rename_i a b ha hb
   split at h
   ·rename_i x l' hx hl
    simp at h; subst h;obtain ⟨t1,t2,t3⟩:=nsq' _ _ _ ha;obtain ⟨d1,d2⟩:=nss' _ _ _ hb;obtain ⟨r1,r2,r3⟩:=nuk' ok n b l' hl;have he:=ok.encdec _ _ _ hx;refine ⟨by simp [r1],by rw [Nat.add_mul]; omega,fun i j y hy hj=>?_⟩
    cases i with
    | zero=>
     simp at hy; subst hy;rw [he] at hj ⊢;rw [t3 j (by omega)]; simp
    | succ i=>
     simp at hy;rw [r3 i j y hy hj,d2];congr 1;rw [Nat.add_mul]; omega
   ·simp at h
  ·simp at h
section
variable {P:Program} {ν:Nat→Option Value} {S B:Nat→Prop} {h:Nat→Option (Blk G.T)} {w:World} {ρ:Operand→Value} {o:Oper}
variable (ok:SigOK P G) {ev:Operand→Option (Sv G.T)} (hev:∀ x s,ev x=some s→Rs G ν S w.heap s (ρ x)) (hr:HRel G ν S B h w) (hB:∀ b,w.heap.size≤b→B b)
 {cf:CallF G} {nm:Nat} {out:Out G} (hfresh:∀ n ∈ out.nw,ν n=none)
include hev
theorem nus' {l:List (Nat×Operand)} {ys:List (Nat×Pv G.T)} (hF:F2 (fun x y=>x.1=y.1∧ev x.2=some (.p y.2)) l ys) :
  F2 (fun (p:Nat×Pv G.T) (q:Nat×Value)=>p.1=q.1∧F2 (Rc G ν S w.heap) p.2.cells q.2.cells.toList) ys (l.map fun p=>(p.1,ρ p.2)):=by
 refine ⟨by simp [hF.1],fun i y q hy hq=>?_⟩
 rw [List.getElem?_map] at hq;cases hx:l[i]? with
 | none=>simp [hx] at hq
 | some x=>
  simp [hx] at hq; subst hq;obtain ⟨h1,h2⟩:=hF.2 i x y hx hy;exact ⟨h1.symm,np6' (rpOf hev h2)⟩
omit hev in
include ok in
theorem n1d' {t:Nat} {z:Value} (hz:z.cells.toList=G.zero t):F2 (Rc G ν S w.heap) (zeros G t) z.cells.toList:=by
 rw [hz,zeros];exact F2.map_left ⟨rfl,fun i x y hx hy=>by rw [hx] at hy; simp at hy; subst hy; exact .sc _ (ok.zsc t x (List.mem_of_getElem? hx))⟩
include hr ok
theorem n77' {t:Nat} {parts:Array (Nat×Operand)} (ho:o.op=.build t parts) (hact:nn9' ev t parts.toList (Out G) some=some out):Runs P G ρ o ν S B h w out:=by
 unfold nn9' at hact;cases ht:G.ty t with
 | st fs=>
  simp only [ht] at hact;obtain ⟨ps,h1,hps⟩:=nq5' hact;obtain ⟨cs,hcs,h2⟩:=M.bindopt h1;simp [M.ret] at h2; subst h2;obtain ⟨fields,hu,hfs,hno⟩:=ok.strc t fs ht;obtain ⟨z,hz,hzc⟩:=ok.zeroV w (show G.ty t ≠ .no by rw [ht]; simp)
  obtain ⟨cs',hf,hF⟩:=npk' ps _ (zeros G t) z.cells cs (n1d' ok hzc) (nus' hev hps) hcs;refine Runs.outP hr (v:=.agg cs'.toList.toArray) ?_ (.agg _ _ hF)
  have hpl:∀ (l:List Field) (w:World),(∀ f ∈ l,G.ty f.type ≠ .no)→(l.mapM (fun f=>(do pure (f.offset,← sizeOf f.type):Sem (Nat×Nat)))).run P w=.ok (l.map fun f=>(f.offset,G.sz f.type)) w:=by
   intro l
   induction l with
   | nil=>intro w _; rfl
   | cons f l ih=>
    intro w hl;simp only [List.mapM_cons,Sem.run_bind,ok.sizeOf w (hl f (by simp)),Result.andThen_ok,Sem.run_pure,ih w (fun g hg=>hl g (by simp [hg])),List.map_cons]
  have hall:∀ f ∈ fields.toList,G.ty f.type ≠ .no:=by
   intro f hf';refine hno f.offset f.type ?_;rw [← hfs];exact List.mem_map.2 ⟨f,hf',rfl⟩
  have hM:(fields.mapM (fun f=>(do pure (f.offset,← sizeOf f.type):Sem (Nat×Nat)))).run P w=.ok (fields.toList.map fun f=>(f.offset,G.sz f.type)).toArray w:=by
   rw [Array.mapM_eq_mapM_toList];simp only [Sem.run_map,hpl _ w hall,Result.andThen_ok]
  have hplace:(fun i=>(fields.toList.map fun f=>(f.offset,G.sz f.type)).toArray[i]?)=nyf' G fs:=by
   funext i;rw [← hfs];unfold nyf';rw [List.getElem?_map];simp;cases fields[i]? <;> rfl
  unfold execOp; rw [ho];simp only [Instr.build,Sem.run_bind,hz,Result.andThen_ok,run_underlying hu w,hM,hplace];have hf':Instr.fill (nyf' G fs) z.cells (parts.map fun (i,x)=>(i,ρ x)).toList=some cs':=by rw [Array.toList_map]; exact hf
  rw [hf'];simp
 | arr n e=>
  simp only [ht] at hact;obtain ⟨ps,h1,hps⟩:=nq5' hact;obtain ⟨cs,hcs,h2⟩:=M.bindopt h1;simp [M.ret] at h2; subst h2;obtain ⟨hu,he⟩:=ok.arr t n e ht;obtain ⟨z,hz,hzc⟩:=ok.zeroV w (show G.ty t ≠ .no by rw [ht]; simp)
  obtain ⟨cs',hf,hF⟩:=npk' ps _ (zeros G t) z.cells cs (n1d' ok hzc) (nus' hev hps) hcs;refine Runs.outP hr (v:=.agg cs'.toList.toArray) ?_ (.agg _ _ hF);unfold execOp; rw [ho];have hf':Instr.fill (fun i=>some (i * G.sz e,G.sz e)) z.cells (parts.map fun (i,x)=>(i,ρ x)).toList=some cs':=by rw [Array.toList_map]; exact hf
  simp only [Instr.build,Sem.run_bind,hz,Result.andThen_ok,run_underlying hu w,ok.sizeOf w he];rw [hf'];simp
 | _=>simp [ht,M.fail] at hact
omit hev hr
theorem nbe2' {hh:Array Obj} {e:Nat} {n:Nat} {cs:List (Cv G.T)} {l:List (G.T e)} (hl:rows G e n cs=some l) {c:Array Value} (hF:F2 (Rc G ν S hh) cs c.toList):RRow G S hh e l c:=by
 intro i j x cv hx hcv;obtain ⟨r1,r2,r3⟩:=nuk' ok n cs l hl;have hj:j < (G.enc e x).length:=(List.getElem?_eq_some_iff.1 hcv).1;have h1:=r3 i j x hx hj;rw [hcv] at h1;obtain ⟨v,hv,hrc⟩:=hF.get h1.symm;exact ⟨v,by simpa using hv,n2j' ok (List.mem_of_getElem? hcv) hrc⟩
theorem nxg' {hh:Array Obj} {e:Nat} {z:Value} (hz:z.cells.toList=G.zero e) (hpos:0 < G.sz e):∀ n,F2 (Rc G ν S hh) (nml' G e n) (((Array.range (n * G.sz e)).map (z.cells[· % z.cells.size]!))).toList:=by
 have hsz:z.cells.size=G.sz e:=by rw [← ok.zlen e,← hz]; simp
 have hlen:∀ n,(nml' G e n).length=n * G.sz e:=by
  intro n
  induction n with
  | zero=>simp [nml']
  | succ n ih=>simp [nml',ih,zeros,ok.zlen e,Nat.add_mul]; omega
 have hget:∀ n j,j < n * G.sz e→(nml' G e n)[j]?=(G.zero e)[j % G.sz e]?.map .sc:=by
  intro n
  induction n with
  | zero=>intro j hj; omega
  | succ n ih=>
   intro j hj;rw [nml',List.getElem?_append];have hzl:(zeros G e).length=G.sz e:=by simp [zeros,ok.zlen e]
   by_cases hjs:j < G.sz e
   ·rw [if_pos (by omega),Nat.mod_eq_of_lt hjs]; simp [zeros]
   ·have hsm:=Nat.succ_mul n (G.sz e)
    have hj':j - G.sz e < n * G.sz e:=by rw [Nat.succ_eq_add_one] at hsm; omega
    rw [if_neg (by omega),hzl,ih (j - G.sz e) hj']
    rw [Nat.mod_eq_sub_mod (a:=j) (by omega)]
 intro n;refine ⟨by simp [hlen n],fun j x y hx hy=>?_⟩
 have hj:j < n * G.sz e:=by have:=(List.getElem?_eq_some_iff.1 hx).1; rw [hlen] at this; exact this
 rw [hget n j hj] at hx;have hm:j % G.sz e < G.sz e:=Nat.mod_lt _ hpos
 have hzz:(G.zero e)[j % G.sz e]?=some z.cells[j % z.cells.size]!:=by
  rw [← hz,hsz];simp [hsz,hm]
 rw [hzz] at hx;simp at hx; subst hx;simp [hj] at hy; subst hy;exact .sc _ (ok.zsc e _ (List.mem_of_getElem? hzz))
include hev hr hB hfresh
theorem nyq' {t len:Nat} {parts:Array (Nat×Operand)} (ho:o.op=.buildSlice t len parts) (hact:nb2' ev h nm t len parts.toList (Out G) some=some out):Runs P G ρ o ν S B h w out:=by
 unfold nb2' at hact;cases ht:G.ty t with
 | sl e=>
  simp only [ht] at hact;obtain ⟨ps,h1,hps⟩:=nq5' hact;obtain ⟨hlen,h2⟩:=M.bindneed h1;obtain ⟨cs,hcs,h3⟩:=M.bindopt h2;obtain ⟨hu,he,⟨i,hi,hib⟩,_⟩:=ok.sl t e ht;obtain ⟨z,hz,hzc⟩:=ok.zeroV w he;have hpos:=ok.pos _ he;obtain ⟨cs',hf,hF0⟩:=npk' ps _ (nml' G e len) _ cs (nxg' ok hzc hpos len) (nus' hev hps) hcs;simp only [Bool.and_eq_true] at hlen;have hsz:len * G.sz e≤16777216:=Nat.le_of_ble_eq_true hlen.2;have hle:len≤65536:=Nat.le_of_ble_eq_true hlen.1
  have hexec:(execOp ρ o).run P w=.ok (.value (.slice (some ⟨w.heap.size,0,none⟩) len len)) { w with heap:=w.heap.push (.cells cs' e) }:=by
   unfold execOp; rw [ho];simp only [Instr.buildSlice,Sem.run_bind,run_underlying hu w,Result.andThen_ok,ok.sizeOf w he];rw [if_neg (show ¬ (len * G.sz e > 2 ^ 24) by omega)]
   have hf':Instr.fill (fun i=>some (i * G.sz e,G.sz e)) ((Array.range (len * G.sz e)).map (z.cells[· % z.cells.size]!)) (parts.map fun (i,x)=>(i,ρ x)).toList=some cs':=by rw [Array.toList_map]; exact hf
   by_cases h0:len * G.sz e=0
   ·have he0:(Array.range (len * G.sz e)).map ((#[]:Array Value)[· % (#[]:Array Value).size]!)=(Array.range (len * G.sz e)).map (z.cells[· % z.cells.size]!):=by simp [h0]
    rw [if_pos h0];simp only [Sem.run_bind,Sem.run_pure,Result.andThen_ok];rw [he0,hf'];simp [newRow]
   ·rw [if_neg h0]
    simp only [Sem.run_bind,hz,Sem.run_pure,Result.andThen_ok];rw [hf'];simp [newRow]
  unfold nsl' at h3;cases hfn:isFn (G.ty e) with
  | true=>
  rw [hfn] at h3;obtain ⟨hnp,h4⟩:=M.bindneed h3;simp [M.ret] at h4; subst h4;have hν:=hfresh nm (by simp)
  refine ⟨.value (.slice (some ⟨w.heap.size,0,none⟩) len len),{ w with heap:=w.heap.push (.cells cs' e) },_,ext ν nm (.pointer (some ⟨w.heap.size,0,none⟩)),S,hexec,.inl rfl,?_⟩
  refine Post.alloc (k:=.cells cs) (c:=cs') (te:=e) (w':={ w with heap:=w.heap.push (.cells cs' e) }) hr hB hν rfl rfl rfl rfl ⟨rfl,rfl,rfl⟩ ⟨w.heap.size,cs',e,nbt',by simp,?_,fun m t' hm=>(nu3' hnp hm).elim⟩ fun s hs=>?_
  ·exact hF0.mono fun _ _=>Rc.mono (nze' _ hr hν)
  ·simp at hs; subst hs
   exact .p _ _ (.one _ _ ⟨w.heap.size,nbt',rfl⟩)
  | false=>
  rw [hfn] at h3;obtain ⟨q,hq,h3⟩:=M.bindopt h3;obtain ⟨l,hl,h4⟩:=M.bindopt h3;simp [M.ret] at h4; subst h4;have hr1:=hr.frz q.2;have hF:=nuf' hr hq (fun _ h=>h) hF0
  obtain ⟨r1,r2,r3⟩:=nuk' ok len q.1 l hl;have hcs':cs'.size=len * G.sz e:=by have:=hF.1; simp at this; omega
  have hν:=hfresh nm (by simp)
  refine ⟨.value (.slice (some ⟨w.heap.size,0,none⟩) len len),{ w with heap:=w.heap.push (.cells cs' e) },_,ext ν nm (.slice (some ⟨w.heap.size,0,none⟩) len len),frzS ν S h q.2,hexec,.inl rfl,?_⟩
  ·have hx:ext ν nm (.slice (some ⟨w.heap.size,0,none⟩) len len) nm=some (.slice (some ⟨w.heap.size,0,none⟩) l.length len):=by rw [nbt',r1]
   rw [nw1']
   refine Post.frz (fz:=q.2) (out1:=⟨some (.p (.one (.own nm))),[(nm,some (.row e l))],[nm],q.2⟩) hr rfl rfl (Post.alloc (k:=.row e l) (c:=cs') (te:=e) (w':={ w with heap:=w.heap.push (.cells cs' e) }) (out:=⟨some (.p (.one (.own nm))),[(nm,some (.row e l))],[nm],q.2⟩) hr1 hB hν rfl rfl rfl rfl ⟨rfl,rfl,rfl⟩
    (.inr ⟨w.heap.size,len,cs',e,hx,by simp,by omega,hcs',?_,rfl,by unfold maxLen; omega⟩) fun s hs=>?_)
   ·exact nbe2' ok (ν:=ext ν nm (.slice (some ⟨w.heap.size,0,none⟩) len len)) hl (hF.mono fun _ _=>Rc.mono (nze' _ hr1 hν))
   ·simp at hs; subst hs
    exact .p _ _ (.one _ _ ⟨_,_,_,nbt',rfl⟩)
 | _=>simp [ht,M.fail] at hact
theorem nzl' {t:Nat} {x y:Operand} (ho:o.op=.makeSlice t x y) (hact:nfp' ev nm t x y (Out G) some=some out):Runs P G ρ o ν S B h w out:=by
 unfold nfp' at hact;cases ht:G.ty t with
 | sl e=>
  simp only [ht] at hact;obtain ⟨kn,n,hn,h1⟩:=bindI hact;obtain ⟨km,m,hm,h2⟩:=bindI h1;obtain ⟨hb,h3⟩:=M.bindneed h2;obtain ⟨z,hz,h4⟩:=M.bindopt h3;simp [M.ret] at h4; subst h4;obtain ⟨hu,he,⟨i,hi,hib⟩,_⟩:=ok.sl t e ht;obtain ⟨i',zv,hi',his,hiz,hzc⟩:=ok.info e he;rw [hi] at hi'; simp at hi'; subst hi';have hpos:=ok.pos _ he;simp [n4e'] at hb;obtain ⟨⟨hb0,hb1⟩,hb2'⟩:=hb;have hb2:m≤2147483648:=of_decide_eq_true hb2';have hρn:=(scOf hev hn).1;have hρm:=(scOf hev hm).1
  have hbytes:(i.bytes:Int) * m≤281474976710656:=by
   have h1:(i.bytes:Int) * m≤4096 * m:=Int.mul_le_mul_of_nonneg_right (by omega) (by omega)
   omega
  have hrun:=run_make (P:=P) w t e i zv hu hi hiz kn km n m hb0 hb1 hbytes (by omega)
  have hν:=hfresh nm (by simp)
  rw [his] at hrun;refine ⟨.value (.slice (some ⟨w.heap.size,0,none⟩) n.toNat m.toNat),w.alloc (.cells (madeCells zv.cells (m.toNat * G.sz e)) e),_,ext ν nm (.slice (some ⟨w.heap.size,0,none⟩) n.toNat m.toNat),S,?_,.inl rfl,?_⟩
  ·unfold execOp; rw [ho]
   simp [hρn,hρm,hrun]
  ·have hx:ext ν nm (.slice (some ⟨w.heap.size,0,none⟩) n.toNat m.toNat) nm=some (.slice (some ⟨w.heap.size,0,none⟩) (List.replicate n.toNat z).length m.toNat):=by rw [nbt']; simp
   refine Post.alloc (k:=.row e (List.replicate n.toNat z)) (c:=madeCells zv.cells (m.toNat * G.sz e)) (te:=e) (w':=w.alloc (.cells (madeCells zv.cells (m.toNat * G.sz e)) e)) hr hB hν rfl rfl rfl rfl ⟨rfl,rfl,rfl⟩
    (.inr ⟨w.heap.size,m.toNat,madeCells zv.cells (m.toNat * G.sz e),e,hx,by simp,by simp; omega,by simp [madeCells],?_,rfl,by unfold maxLen; omega⟩) fun s hs=>?_
   ·have hzr:=nxg' ok (ν:=ν) (S:=S) (hh:=w.heap.push (.cells (madeCells zv.cells (m.toNat * G.sz e)) e)) hzc hpos m.toNat
    intro q j x cv hx' hcv;have hq:q < n.toNat:=by have:=(List.getElem?_eq_some_iff.1 hx').1; simpa using this
    simp [hq] at hx';subst hx';rw [ok.encdec _ _ _ hz] at hcv;have hj:j < G.sz e:=by have:=(List.getElem?_eq_some_iff.1 hcv).1; simpa [zeros,ok.zlen e] using this
    have hsz:zv.cells.size=G.sz e:=by rw [← ok.zlen e,← hzc]; simp
    simp [zeros] at hcv;obtain ⟨v0,hv0,rfl⟩:=hcv;refine ⟨v0,?_,.sc _ (ok.zsc e _ (List.mem_of_getElem? hv0))⟩
    have hlt:q * G.sz e + j < m.toNat * G.sz e:=by
     have:(q + 1) * G.sz e≤m.toNat * G.sz e:=Nat.mul_le_mul_right _ (by omega)
     rw [Nat.add_mul] at this; omega
    have hmod:(q * G.sz e + j) % G.sz e=j:=by rw [Nat.mul_comm,Nat.mul_add_mod,Nat.mod_eq_of_lt hj]
    rw [← hzc] at hv0;simp [madeCells,hlt,hsz,hmod];simp [hsz,hj] at hv0;simp [hv0,hsz,hj]
   ·simp at hs; subst hs
    exact .p _ _ (.one _ _ ⟨_,_,_,nbt',rfl⟩)
 | _=>simp [ht,M.fail] at hact
end
section
variable {P:Program} {ν:Nat→Option Value} {S B:Nat→Prop} {h:Nat→Option (Blk G.T)} {w:World} {ρ:Operand→Value} {o:Oper}
variable (ok:SigOK P G) {ev:Operand→Option (Sv G.T)} (hev:∀ x s,ev x=some s→Rs G ν S w.heap s (ρ x)) (hr:HRel G ν S B h w) {out:Out G}
include ok hev hr
theorem n70' {t:Nat} {x y:Operand} (ho:o.op=.store t x y) (hact:nig' ev h t x y (Out G) some=some out):Runs P G ρ o ν S B h w out:=by
 unfold nig' at hact;obtain ⟨c,hc,hact⟩:=bindC hact;obtain ⟨x',hx',hact⟩:=bindP hact;obtain ⟨hsz,hact⟩:=M.bindneed hact;have old:nok' h c x'.cells (Out G) some=some out→Runs P G ρ o ν S B h w out:=n48' ok hev hr ho hc hx' hsz;cases c with
 | pr m tt i off=>
  unfold ntx' at hact;obtain ⟨q,hq,hact⟩:=M.bindopt hact;obtain ⟨hnb,hact⟩:=M.bindneed hact;obtain ⟨⟨n,k'⟩,hp,hact⟩:=M.bindopt hact;simp [M.ret] at hact; subst hact;have hnm:m ∉ q.2:=fun hm=>by rw [(nc7' q.2 m).2 hm] at hnb; simp at hnb
  have hr1:=hr.frz q.2;have hnew:=nuf' hr hq (fun _ h=>h) (np6' (rpOf hev hx'))
  have hp1:poke (appD h (goneD q.2)) q.1 (.pr m tt i off)=some (n,k'):=by
   rw [← hp];simp only [poke];rw [nkw',if_neg hnm]
  have hrc:Rc G ν (frzS ν S h q.2) w.heap (.pr m tt i off) (ρ x):=rcOf hev hc;obtain ⟨b,off',w',xx,hv,hrun,hn,hνn,hb,⟨c',te,hw⟩,hrel⟩:=nxh' ok hr1 hrc hnew hp1
  have hsize:(ρ y).cells.size=G.sz t:=by
   have:=(np6' (rpOf hev hx')).1
   simp at hsz;rw [hsz.1] at this;simpa using this.symm
  have hno:G.ty t ≠ .no:=by
   intro e;simp [e,isNo] at hsz
  refine ⟨.skip,w',undef,ν,frzS ν S h q.2,?_,.inr ⟨rfl,rfl⟩,?_⟩
  ·unfold execOp; rw [ho]
   simp only [Instr.storeAt,hv,Instr.sureAddr,storeVar,Sem.run_bind,Sem.run_pure,Result.andThen_ok,ok.sizeOf w hno,hsize];simp [hrun]
  ·rw [nw1']
   exact Post.frz (fz:=q.2) (out1:=⟨none,[(n,some k')],[],[]⟩) hr rfl rfl ⟨fun _ _ h=>h,fun _ h=>.inl h,fun _ h=>h,fun _ h=>.inl h,hrel,fun s hs=>by simp at hs,by rw [hw.size]; exact Nat.le_refl _,
    fun b' hb' hnot=>hw.there b' (fun e=>hnot n xx hn hνn (e ▸ hb)),hw.env⟩
 | _=>exact old hact
end
end Go.Ab
namespace Go.Ab
variable {G:Sig}
theorem nxk':∀ (ns:List Int) (s:ByteArray),ns.foldl (fun r n=>r.push (UInt8.ofNat n.toNat)) s=⟨s.data++(ns.map fun n=>UInt8.ofNat n.toNat).toArray⟩
 | [],s=>by simp
 | n :: ns,s=>by
  rw [List.foldl_cons,nxk' ns];apply ByteArray.ext;simp [ByteArray.push]
theorem nbf4' {P:Program} {e:Nat} (ok:SigOK P G) (hg:oneT ((G.enc e (G.dfl e)).map u8C)=true) (x:G.T e):∃ n,G.enc e x=[.sc (.int .u8 n)]:=by
 rw [ok.u8d e (G.dfl e) x] at hg;generalize G.enc e x=cs at hg
 match cs,hg with
 | [c],hg=>
  simp only [List.map_cons,List.map_nil] at hg;cases c with
  | sc v=>
   cases v with
   | int k n=>cases k <;> first | exact ⟨_,rfl⟩ | simp [oneT,u8C] at hg
   | _=>simp [oneT,u8C] at hg
  | _=>simp [oneT,u8C] at hg
 | [],hg=>simp [oneT] at hg
 | _ :: _ :: _,hg=>simp [oneT] at hg
section
variable {P:Program} {ν:Nat→Option Value} {S B:Nat→Prop} {h:Nat→Option (Blk G.T)} {w:World} {ρ:Operand→Value} {o:Oper}
variable (ok:SigOK P G) {ev:Operand→Option (Sv G.T)} (hev:∀ x s,ev x=some s→Rs G ν S w.heap s (ρ x)) (hr:HRel G ν S B h w) (hB:∀ b,w.heap.size≤b→B b)
 {cf:CallF G} {nm:Nat} {out:Out G} (hfresh:∀ n ∈ out.nw,ν n=none)
theorem npg' {t t':Nat} {l:List (G.T t)} {l':List (G.T t')} (hc:castL G t t' l=some l'):∃ e:t=t',l'=e ▸ l:=by
 unfold castL at hc;split at hc
 ·rename_i e; simp at hc; exact ⟨e,hc.symm⟩
 ·simp at hc
include ok hr in
theorem nnb' {t e:Nat} (ht:G.ty t=.sl e) {c:Cv G.T} {l:List (G.T e)} (hl:elems h e c=some l) {v:Value} (hv:Rc G ν S w.heap c v) :
  ∃ a cap,v=.slice a l.length cap∧(a=none→l=[])∧∃ vs:List Value,vs.length=l.length * G.sz e∧(∀ a',a=some a'→∀ (j:Nat) u,vs[j]?=some u→w.cell? (a'.add j)=some u) ∧
   (∀ u ∈ vs,u.oneCell'=true)∧∀ (i j:Nat) x cv,l[i]?=some x→(G.enc e x)[j]?=some cv→∃ u,vs[i * G.sz e + j]?=some u∧Rd G S w.heap cv u:=by
 have hel:=(ok.sl t e ht).2.2.2;have hpos:=ok.pos _ (ok.sl t e ht).2.1;unfold elems at hl;split at hl
 ·simp at hl; subst hl
  have hv':Rd G S w.heap (.sc (.slice none 0 0)) v:=hv;cases hv';exact ⟨none,0,rfl,fun _=>rfl,[],by simp,by simp,by simp,by simp⟩
 ·rename_i n
  split at hl
  ·rename_i t' l0 hn
   obtain ⟨rfl,rfl⟩:=npg' hl;obtain ⟨a,len,cap,hν,rfl⟩:=hv;rcases hr.blk n _ hn with ⟨h1,h2⟩ | ⟨b,cap',c,te,h1,h2,h3,h4,h5⟩
   ·rw [hν] at h1; simp at h1; obtain ⟨rfl,rfl,rfl⟩:=h1
    subst h2;exact ⟨none,0,rfl,fun _=>rfl,[],by simp,by simp,by simp,by simp⟩
   ·rw [hν] at h1; simp at h1; obtain ⟨rfl,rfl,rfl⟩:=h1
    have hmul:l.length * G.sz t'≤cap * G.sz t':=Nat.mul_le_mul_right _ h3;refine ⟨_,cap,rfl,by simp,c.toList.take (l.length * G.sz t'),by simp; omega,?_,?_,?_⟩
    ·rintro a' ha j u hu
     simp at ha; subst ha;have hj:j < l.length * G.sz t':=by have:=(List.getElem?_eq_some_iff.1 hu).1; simp at this; omega
     rw [List.getElem?_take_of_lt hj] at hu;rw [nfj',Nat.zero_add,cell_of_row w b j c te (0,0) h2];simpa using hu
    ·intro u hu
     obtain ⟨j,hj,e⟩:=List.getElem_of_mem hu;have hj':j < l.length * G.sz t':=by simp at hj; omega
     have hi:j / G.sz t' < l.length:=Nat.div_lt_of_lt_mul (by rw [Nat.mul_comm]; exact hj')
     have hm:j % G.sz t' < (G.enc t' l[j / G.sz t']).length:=by rw [hel]; exact Nat.mod_lt _ hpos
     obtain ⟨u',hu',hrd⟩:=h5.1 (j / G.sz t') (j % G.sz t') _ _ (List.getElem?_eq_getElem hi) (List.getElem?_eq_getElem hm);rw [Nat.mul_comm,Nat.div_add_mod] at hu'
     have:u=u':=by
      have h6:(c.toList.take (l.length * G.sz t'))[j]?=some u:=by rw [← e]; exact List.getElem?_eq_getElem hj
      rw [List.getElem?_take_of_lt hj'] at h6;simp at h6;rw [h6] at hu'; simpa using hu'
     rw [this]; exact nui' hrd
    ·intro i j x cv hx hcv
     obtain ⟨u,hu,hrd⟩:=h5.1 i j x cv hx hcv;have hi:i < l.length:=(List.getElem?_eq_some_iff.1 hx).1;have hj:j < G.sz t':=by have:=(List.getElem?_eq_some_iff.1 hcv).1; rw [hel] at this; exact this
     have:(i + 1) * G.sz t'≤l.length * G.sz t':=Nat.mul_le_mul_right _ (by omega)
     rw [Nat.add_mul] at this;exact ⟨u,by rw [List.getElem?_take_of_lt (by omega)]; simpa using hu,hrd⟩
  ·simp at hl
 ·rename_i t' l0
  obtain ⟨rfl,rfl⟩:=npg' hl;have hv':Rd G S w.heap (.ro t' l) v:=hv;cases hv' with
  | nil _ a cap=>exact ⟨a,cap,rfl,fun _=>rfl,[],by simp,by simp,by simp,by simp⟩
  | ro _ _ b off cap c te fz vs hS hb hcap hcell hrd=>
   have hjlt:∀ j,j < l.length * G.sz t'→j / G.sz t' < l.length:=fun j hj=>Nat.div_lt_of_lt_mul (by rw [Nat.mul_comm]; exact hj)
   refine ⟨_,cap,rfl,by simp,(List.range (l.length * G.sz t')).map fun j=>vs (j / G.sz t') (j % G.sz t'),by simp,?_,?_,?_⟩
   ·rintro a' ha j u hu
    simp at ha; subst ha;have hj:j < l.length * G.sz t':=by have:=(List.getElem?_eq_some_iff.1 hu).1; simpa using this
    simp [hj] at hu; subst hu;rw [nfj',cell_of_row w b (off + j) c te fz hb];rw [← hcell (j / G.sz t') (j % G.sz t') (hjlt j hj) (Nat.mod_lt _ hpos)];congr 1
    have:=Nat.div_add_mod j (G.sz t')
    rw [Nat.mul_comm] at this;omega
   ·intro u hu
    simp at hu;obtain ⟨j,hj,rfl⟩:=hu;have hi:=hjlt j hj;have hm:j % G.sz t' < (G.enc t' l[j / G.sz t']).length:=by rw [hel]; exact Nat.mod_lt _ hpos
    exact nui' (hrd _ _ _ _ (List.getElem?_eq_getElem hi) (List.getElem?_eq_getElem hm))
   ·intro i j x cv hx hcv
    have hi:i < l.length:=(List.getElem?_eq_some_iff.1 hx).1;have hj:j < G.sz t':=by have:=(List.getElem?_eq_some_iff.1 hcv).1; rw [hel] at this; exact this
    have h6:(i + 1) * G.sz t'≤l.length * G.sz t':=Nat.mul_le_mul_right _ (by omega)
    rw [Nat.add_mul] at h6;have hd:(i * G.sz t' + j) / G.sz t'=i:=by rw [Nat.mul_comm,Nat.mul_add_div hpos,Nat.div_eq_of_lt hj,Nat.add_zero]
    have hmo:(i * G.sz t' + j) % G.sz t'=j:=by rw [Nat.mul_comm,Nat.mul_add_mod,Nat.mod_eq_of_lt hj]
    have hlt:i * G.sz t' + j < l.length * G.sz t':=by omega
    exact ⟨vs i j,by simp [hlt,hd,hmo],hrd i j x cv hx hcv⟩
 ·simp at hl
def intC {T:Nat→Type}:List (Cv T)→Int
 | [.sc (.int _ n)]=>n
 | _=>0
theorem nb4' {b:Builtin} {xs:Array Operand} {tys:Array TypeId} (ho:o.op=.call ⟨.builtin b,xs,tys⟩) {s:Sem Value} {v:Value} {w':World}
  (hs:∀ cs,builtin b tys o.type cs (xs.map ρ)=(do pure (.value (← s)))) (hrun:s.run P w=.ok v w'):(execOp ρ o).run P w=.ok (.value v) w':=by
 unfold execOp; rw [ho];simp only [resolve,invoke,Sem.run_bind,Sem.run_pure,Result.andThen_ok,hs,hrun]
omit hev hr ok in
theorem n0d' {dT ty elem:TypeId} {i:TypeInfo} {w:World} {b off dl dc sl sc:Nat} {a:Option Addr} {c:Array Value} {te:TypeId} {news:List Value}
  (hu:P.underlying dT=some (.slice elem)) (hs:P.info? elem=some i) (hb:w.heap[b]?=some (.cells c te (0,0)))
  (hn:news.length=Nat.min sl dl * i.size) (hsrc:∀ a',a=some a'→∀ (j:Nat) v,news[j]?=some v→w.cell? (a'.add j)=some v) (hnil:a=none→news=[]) (hfit:off + news.length≤c.size) (h1:∀ v ∈ news,v.oneCell'=true) :
  ∃ w' c',(Builtin.copy_ #[dT,dT] ty #[.slice (some ⟨b,off,none⟩) dl dc,.slice a sl sc]).run P w=.ok (goInt (Nat.min sl dl)) w'∧Wrote w w' b c' te∧c'.size=c.size ∧
   ∀ j,c'[j]?=if off≤j∧j < off + news.length then news[j - off]? else c[j]?:=by
 obtain ⟨w',c',hst,hw,hcs,hc⟩:=ngg' (P:=P) (off:=off) news 0 w c hb (by simpa using hfit) h1
 refine ⟨w',c',?_,hw,hcs,by simpa using hc⟩
 have hl:(Builtin.firstCells i.size (Nat.min sl dl) (.slice a sl sc)).run P w=.ok news.toArray w:=by
  cases a with
  | none=>rw [hnil rfl]; simp [Builtin.firstCells]
  | some a'=>
   have:=run_loadCells_list (P:=P) w a' news (hsrc a' rfl)
   rw [hn] at this;simpa [Builtin.firstCells] using this
 simp [Builtin.copy_,run_underlying hu,Builtin.lenOf,sizeOf,typeInfo,hs,hl,hst]
include hev hr ok
theorem n9f' {t:Nat} {x y:Operand} {tys:Array TypeId} {xs:Array Operand} (ho:o.op=.call ⟨.builtin .copy,xs,tys⟩) (htys:tys.toList=[t,t]) (hxs:xs.toList=[x,y])
  (hact:nt' ev h nm .copy tys.toList xs.toList (Out G) some=some out):Runs P G ρ o ν S B h w out:=by
 rw [htys,hxs] at hact;have hxs':xs=#[x,y]:=by rw [← Array.toArray_toList (xs:=xs),hxs]
 have htys':tys=#[t,t]:=by rw [← Array.toArray_toList (xs:=tys),htys]
 have hact:bCopy ev h t t x y (Out G) some=some out:=hact;unfold bCopy at hact;cases ht:G.ty t with
 | sl e=>
  simp only [ht] at hact;obtain ⟨_,h1⟩:=M.bindneed hact;obtain ⟨c,hc,h2⟩:=bindC h1;obtain ⟨c',hc',h3⟩:=bindC h2;obtain ⟨l',hl',h4⟩:=M.bindopt h3;obtain ⟨hu,he,⟨i,hi,_⟩,hel⟩:=ok.sl t e ht
  have hsz:i.size=G.sz e:=by
   obtain ⟨i',z,g1,g2,_⟩:=ok.info e he;rw [hi] at g1; cases g1; exact g2
  have hpos:=ok.pos _ he;obtain ⟨a,cap,hv,hnil,vs,hvl,hvc,hvo,hvr⟩:=nnb' ok hr ht hl' (rcOf hev hc')
  have hmin:∀ n m:Nat,copyN n m=((Nat.min n m:Nat):Int):=by
   intro n m;unfold copyN;cases hb:Nat.ble n m with
   | true=>rw [cond_true,show Nat.min n m=n from Nat.min_eq_left (Nat.le_of_ble_eq_true hb)]
   | false=>
    have:m≤n:=by
     rcases Nat.lt_or_ge m n with h | h
     ·omega
     ·rw [Nat.ble_eq_true_of_le h] at hb; cases hb
    rw [cond_false,show Nat.min n m=m from Nat.min_eq_right this]
  unfold copyC at h4;cases c with
  | own m=>
   simp only at h4;cases hm:h m with
   | none=>simp [hm,M.fail] at h4
   | some blk=>
    cases blk with
    | cells cs=>simp [hm,M.fail] at h4
    | row u l=>
     simp only [hm] at h4;obtain ⟨hg,h5⟩:=M.bindneed h4;obtain ⟨l'',hl'',h6⟩:=M.bindopt h5;simp [M.ret] at h6; subst h6;simp only [Bool.and_eq_true] at hg;obtain rfl:u=e:=nw'.1 hg.1;have hql:l'=l'':=by obtain ⟨_,e⟩:=npg' hl''; exact e.symm
     subst hql;obtain ⟨av,lenv,capv,hνm,_⟩:=rcOf hev hc;have hmn:h m ≠ none:=by rw [hm]; simp
     rcases hr.blk m _ hm with ⟨g1,g2⟩ | ⟨b,cap',cc,te,g1,g2,g3,g4,g5,g6,g7⟩
     ·have hρ:=Option.some.inj (hνm.symm.trans g1)
      subst g2
      have hrun:(Builtin.copy_ tys o.type (xs.map ρ)).run P w=.ok (goInt (Nat.min l'.length 0)) w:=by
       have hl:(Builtin.firstCells i.size 0 (.slice a l'.length cap)).run P w=.ok #[] w:=by
        cases a with
        | none=>simp [Builtin.firstCells]
        | some a'=>
         have:=run_loadCells_list (P:=P) w a' [] (by simp)
         simpa [Builtin.firstCells] using this
       simp [Builtin.copy_,hxs',htys',run_underlying hu,Builtin.lenOf,sizeOf,typeInfo,hi,hρ,hv,hl]
      refine ⟨.value (goInt (Nat.min l'.length 0)),w,_,ν,S,nb4' ho (fun _=>rfl) hrun,.inl rfl,⟨fun _ _ h=>h,fun _ h=>.inl h,fun _ h=>h,fun _ h=>.inl h,?_,fun s hs=>?_,Nat.le_refl _,fun _ _ _=>rfl,rfl,rfl,rfl⟩⟩
      ·have:appD h [(m,some (Blk.row u (copyR ([]:List (G.T u)) l')))]=h:=by
        funext q;simp only [appD,copyR];by_cases hq:q=m
        ·subst hq; simp [hm]
        ·simp [Ne.symm hq]
       simp only [this];exact hr
      ·simp at hs; subst hs
       rw [hmin];exact .p _ _ (.one _ _ (.sc _ rfl))
     ·have hρ:=Option.some.inj (hνm.symm.trans g1)
      rw [hρ] at hνm;subst g6;have hk:Nat.min l'.length l.length * G.sz te≤cap' * G.sz te:=Nat.mul_le_mul_right _ (Nat.le_trans (Nat.min_le_right _ _) g3);have hk2:Nat.min l'.length l.length * G.sz te≤l'.length * G.sz te:=Nat.mul_le_mul_right _ (Nat.min_le_left _ _);have hnl:(vs.take (Nat.min l'.length l.length * G.sz te)).length=Nat.min l'.length l.length * G.sz te:=by rw [List.length_take]; omega
      obtain ⟨w',c2,hrun,hw,hcs,hcc⟩:=n0d' (P:=P) (dT:=t) (ty:=o.type) (dl:=l.length) (dc:=cap') (sl:=l'.length) (sc:=cap) (a:=a) (news:=vs.take (Nat.min l'.length l.length * G.sz te)) hu hi g2 (off:=0)
       (by rw [hnl,hsz]) (fun a' ha j v hj=>hvc a' ha j v (by
        have:=(List.getElem?_eq_some_iff.1 hj).1
        rw [List.length_take] at this;rw [List.getElem?_take_of_lt (by omega)] at hj; exact hj)) (fun ha=>by
        have:l'=[]:=hnil ha
        apply List.eq_nil_of_length_eq_zero;rw [hnl,this];show Nat.min 0 l.length * G.sz te=0;rw [show Nat.min 0 l.length=0 from Nat.zero_min _,Nat.zero_mul]) (by rw [hnl]; omega) (fun v hv=>hvo v (List.mem_of_mem_take hv))
      have hx:blkOf (Value.slice (some (⟨b,0,none⟩:Addr)) l.length cap')=some b:=rfl;have hS:¬ S b:=(hr.own m _ b hmn hνm hx).1;have le:Le ν ν S S w.heap w'.heap:=⟨fun _ _ h=>h,fun _ h=>h,fun b' hb'=>hw.there b' (fun e=>hS (e ▸ hb'))⟩
      have hlen:(copyR l l').length=l.length:=by
       unfold copyR;rw [List.length_append,List.length_take,List.length_drop]; omega
      have hrel:=hr.wrote hmn hνm hx hw (k':=.row te (copyR l l')) (.inr ⟨b,cap',c2,te,by rw [hνm,hlen],hw.here,by rw [hlen]; exact g3,by rw [hcs,g4],fun i' j x' cv hx' hcv=>?_,rfl,g7⟩)
      ·refine ⟨.value (goInt (Nat.min l'.length l.length)),w',_,ν,S,nb4' ho (fun _=>rfl) (by rw [hxs',htys']; simpa [hρ,hv] using hrun),.inl rfl,⟨fun _ _ h=>h,fun _ h=>.inl h,fun _ h=>h,fun _ h=>.inl h,?_,fun s hs=>?_,by rw [hw.size]; exact Nat.le_refl _,fun b' hb' hnot=>hw.there b' (fun e=>hnot m _ hmn hνm (e ▸ hx)),hw.env⟩⟩
       ·have:appD h [(m,some (Blk.row te (copyR l l')))]=fun q=>if m=q then some (Blk.row te (copyR l l')) else h q:=by
         funext q;simp only [appD]
        rw [this];exact hrel
       ·simp at hs; subst hs
        rw [hmin];exact .p _ _ (.one _ _ (.sc _ rfl))
      ·have hj:j < G.sz te:=by have:=(List.getElem?_eq_some_iff.1 hcv).1; rw [hel] at this; exact this
       rw [hcc,hnl];unfold copyR at hx';by_cases hi':i' < Nat.min l'.length l.length
       ·have hm1:i' < l'.length:=Nat.lt_of_lt_of_le hi' (Nat.min_le_left _ _)
        have hm2:i' < l.length:=Nat.lt_of_lt_of_le hi' (Nat.min_le_right _ _);rw [List.getElem?_append_left (by rw [List.length_take]; omega),List.getElem?_take_of_lt hm2] at hx'
        obtain ⟨u,hu',hrd⟩:=hvr i' j x' cv hx' hcv
        have hlt:i' * G.sz te + j < Nat.min l'.length l.length * G.sz te:=by
         have:(i' + 1) * G.sz te≤Nat.min l'.length l.length * G.sz te:=Nat.mul_le_mul_right _ hi'
         rw [Nat.add_mul] at this; omega
        exact ⟨u,by rw [if_pos ⟨Nat.zero_le _,by omega⟩,Nat.sub_zero,List.getElem?_take_of_lt hlt]; exact hu',hrd.mono le.st le.hp⟩
       ·have hge:Nat.min l'.length l.length≤i':=Nat.le_of_not_lt hi'
        have hx2:l[i']?=some x':=by
         rcases Nat.le_total l.length l'.length with hle | hle
         ·have hi3:i' < (l'.take l.length++l.drop l'.length).length:=(List.getElem?_eq_some_iff.1 hx').1
          rw [List.length_append,List.length_take,List.length_drop] at hi3
          have:Nat.min l'.length l.length=l.length:=Nat.min_eq_right hle
          rw [this] at hge;omega
         ·have:Nat.min l'.length l.length=l'.length:=Nat.min_eq_left hle
          rw [this] at hge;rw [List.getElem?_append_right (by rw [List.length_take]; omega),List.getElem?_drop,List.length_take,Nat.min_eq_right hle,show l'.length + (i' - l'.length)=i' by omega] at hx'
          exact hx'
        obtain ⟨u,hu',hrd⟩:=g5 i' j x' cv hx2 hcv;have hge2:Nat.min l'.length l.length * G.sz te≤i' * G.sz te:=Nat.mul_le_mul_right _ hge;exact ⟨u,by rw [if_neg (by omega)]; exact hu',hrd.mono le.st le.hp⟩
  | sa m off len=>
   simp only at h4;cases hm:h m with
   | none=>simp [hm,M.fail] at h4
   | some blk=>
    cases blk with
    | row u l=>simp [hm,M.fail] at h4
    | cells cs=>
     simp only [hm] at h4;obtain ⟨hg,h5⟩:=M.bindneed h4;obtain ⟨cs',hcs',h6⟩:=M.bindopt h5;obtain ⟨hnp,h7⟩:=M.bindneed h6;simp [M.ret] at h7; subst h7;simp only [Bool.and_eq_true] at hg;have hs1:G.sz e=1:=nw'.1 hg.1;obtain ⟨b,hνm,hρ⟩:=rcOf hev hc;have hmn:h m ≠ none:=by rw [hm]; simp
     obtain ⟨b2,cc,te,g1,g2,g3,g4⟩:=hr.blk m _ hm;rw [hνm] at g1; cases g1;unfold copyA at hcs';split at hcs'
     ·rename_i new hnew
      rw [nrw'] at hnew;obtain ⟨n1,n2⟩:=nbh' _ _ hnew;rw [List.length_range] at n1;obtain ⟨s1,s2,s3⟩:=nfv' _ _ _ _ hcs';have hcl:cs.length=cc.size:=by have:=g3.1; simpa using this
      rw [hs1,Nat.mul_one] at hvl;have hnl:(vs.take (Nat.min l'.length len)).length=Nat.min l'.length len:=by rw [List.length_take,hvl]; exact Nat.min_eq_left (Nat.min_le_left _ _)
      have hle:Nat.min l'.length len≤len:=Nat.min_le_right _ _
      obtain ⟨w',c2,hrun,hw,hsz2,hcc⟩:=n0d' (P:=P) (dT:=t) (ty:=o.type) (dl:=len) (dc:=len) (sl:=l'.length) (sc:=cap) (a:=a) (news:=vs.take (Nat.min l'.length len)) hu hi g2 (off:=off)
       (by rw [hnl,hsz,hs1,Nat.mul_one]) (fun a' ha j v hj=>hvc a' ha j v (by
        have:=(List.getElem?_eq_some_iff.1 hj).1
        rw [List.length_take] at this;rw [List.getElem?_take_of_lt (by omega)] at hj; exact hj)) (fun ha=>by
        have:l'=[]:=hnil ha
        apply List.eq_nil_of_length_eq_zero;rw [hnl,this];exact Nat.zero_min _) (by rw [hnl]; omega) (fun v hv=>hvo v (List.mem_of_mem_take hv))
      have hx:blkOf (Value.pointer (some (⟨b,0,none⟩:Addr)))=some b:=rfl;have hS:¬ S b:=(hr.own m _ b hmn hνm hx).1;have le:Le ν ν S S w.heap w'.heap:=⟨fun _ _ h=>h,fun _ h=>h,fun b' hb'=>hw.there b' (fun e=>hS (e ▸ hb'))⟩
      have hrel:=hr.wrote hmn hνm hx hw (k':=.cells cs') ⟨b,c2,te,hνm,hw.here,⟨by rw [s1,hcl,← hsz2]; simp,fun q x' y' hx' hy'=>?_⟩,fun m' t' hm'=>(nu3' hnp hm').elim⟩
      ·refine ⟨.value (goInt (Nat.min l'.length len)),w',_,ν,S,nb4' ho (fun _=>rfl) (by rw [hxs',htys']; simpa [hρ,hv] using hrun),.inl rfl,⟨fun _ _ h=>h,fun _ h=>.inl h,fun _ h=>h,fun _ h=>.inl h,?_,fun s hs=>?_,by rw [hw.size]; exact Nat.le_refl _,fun b' hb' hnot=>hw.there b' (fun e=>hnot m _ hmn hνm (e ▸ hx)),hw.env⟩⟩
       ·have:appD h [(m,some (Blk.cells cs'))]=fun q=>if m=q then some (Blk.cells cs') else h q:=by
         funext q;simp only [appD]
        rw [this];exact hrel
       ·simp at hs; subst hs
        rw [hmin];exact .p _ _ (.one _ _ (.sc _ rfl))
      ·rw [s3] at hx'
       have hy2:c2[q]?=some y':=by simpa using hy'
       rw [hcc,hnl] at hy2;by_cases hin:off≤q∧q < off + new.length
       ·rw [if_pos hin] at hx'
        obtain ⟨z,hz,hf⟩:=n2 (q - off) (q - off) (by rw [List.getElem?_range (by omega)])
        rw [hz] at hx'; cases hx';split at hf
        ·rename_i o0 c0 ho0 hc0
         rw [show off + (q - off)=q by omega] at ho0
         have hit:=ny3' hf;by_cases hlt:q - off < l'.length
         ·rw [show Nat.blt (q - off) l'.length=true from Nat.ble_eq_true_of_le (Nat.succ_le_of_lt hlt),if_pos rfl] at hit
          rw [if_pos ⟨hin.1,by have:q - off < Nat.min l'.length len:=Nat.lt_min.2 ⟨hlt,by omega⟩; omega⟩] at hy2
          have hmem:l'[q - off]?=some (l'.getD (q - off) (G.dfl e)):=by rw [List.getD_eq_getElem?_getD,List.getElem?_eq_getElem hlt]; rfl
          obtain ⟨u,hu',hrd⟩:=hvr (q - off) 0 _ c0 hmem (by rw [hc0]; rfl)
          rw [hs1,Nat.mul_one,Nat.add_zero] at hu';rw [List.getElem?_take_of_lt (Nat.lt_min.2 ⟨hlt,by omega⟩),hu'] at hy2
          cases hy2;rw [hit];exact (nzx' ok (t:=e) (x:=l'.getD (q - off) (G.dfl e)) (by rw [hc0]; simp) (hrd.mono le.st le.hp))
         ·rw [show Nat.blt (q - off) l'.length=false from by
           cases hbb:Nat.blt (q - off) l'.length with
           | false=>rfl
           | true=>exact absurd (Nat.le_of_ble_eq_true hbb) hlt,if_neg (by simp)] at hit
          have:Nat.min l'.length len≤l'.length:=Nat.min_le_left _ _
          rw [if_neg (by omega)] at hy2
          rw [hit];exact (g3.2 q o0 y' ho0 (by simpa using hy2)).mono le
        ·cases hf
       ·rw [if_neg hin] at hx'
        rw [if_neg (by omega)] at hy2
        exact (g3.2 q x' y' hx' (by simpa using hy2)).mono le
     ·cases hcs'
  | _=>simp [M.fail] at h4
 | _=>simp [ht,M.fail] at hact
theorem nbdk' {t:Nat} {x:Operand} {tys:Array TypeId} {xs:Array Operand} (ho:o.op=.call ⟨.builtin .len,xs,tys⟩) (htys:∃ ts,tys.toList=t :: ts) (hxs:xs.toList=[x])
  (hact:nt' ev h nm .len tys.toList xs.toList (Out G) some=some out):Runs P G ρ o ν S B h w out:=by
 obtain ⟨ts,hts⟩:=htys;rw [hts,hxs] at hact;have hxs':xs=#[x]:=by rw [← Array.toArray_toList (xs:=xs),hxs]
 have hty0:tys[0]?=some t:=by rw [← Array.getElem?_toList,hts]; rfl
 have go:∀ n:Nat,(Builtin.len_ tys o.type (xs.map ρ)).run P w=.ok (goInt n) w→Runs P G ρ o ν S B h w (outV (.int .i64 n)):=by
  intro n hn;exact Runs.outV hr (nb4' ho (fun _=>rfl) hn) rfl
 cases ht:G.ty t with
 | str=>
  simp only [nt',bLen,ht] at hact;obtain ⟨c,hc,h1⟩:=bindC hact;cases c with
  | sc v=>
   cases v with
   | string s=>
    simp [M.ret] at h1; subst h1;refine go _ ?_;simp [Builtin.len_,hty0,hxs',run_underlying (ok.str t ht),(scOf hev hc).1]
   | _=>simp [M.fail] at h1
  | _=>simp [M.fail] at h1
 | arr n e=>
  simp only [nt',bLen,ht] at hact;simp [M.ret] at hact; subst hact;refine go _ ?_;simp [Builtin.len_,hty0,hxs',run_underlying (ok.arr t n e ht).1]
 | sl e=>
  simp only [nt',bLen,ht] at hact;obtain ⟨c,hc,h1⟩:=bindC hact
  have old:M.bind (M.opt (elems h e c)) (fun l=>M.ret (⟨some (.p (.one (.sc (.int .i64 (l.length:Int))))),[],[],c.rds⟩:Out G)) (Out G) some=some out→Runs P G ρ o ν S B h w out:=fun h1=>by
   obtain ⟨l,hl,h2⟩:=M.bindopt h1;simp [M.ret] at h2; subst h2;obtain ⟨a,cap,hv,_⟩:=nnb' ok hr ht hl (rcOf hev hc);refine Runs.value hr rfl (nb4' ho (fun _=>rfl) (v:=goInt l.length) ?_) fun s hs=>?_
   ·simp [Builtin.len_,hty0,hxs',run_underlying (ok.sl t e ht).1,hv]
   ·simp at hs; subst hs
    exact .p _ _ (.one _ _ (.sc _ rfl))
  cases c with
  | sa n off len=>
   simp [lenS,M.ret] at h1; subst h1;obtain ⟨b,_,hv⟩:=rcOf hev hc;refine go _ ?_;simp [Builtin.len_,hty0,hxs',run_underlying (ok.sl t e ht).1,hv]
  | _=>exact old h1
 | _=>simp [nt',bLen,ht,M.fail] at hact
theorem nbbh' {s t:Nat} {x:Operand} (ho:o.op=.convert s t x) (hact:aConv ev h s t x (Out G) some=some out):Runs P G ρ o ν S B h w out:=by
 unfold aConv at hact;obtain ⟨hs,h0⟩:=M.bindneed hact;obtain ⟨c,hc,h1⟩:=bindC h0;cases hts:G.ty s with
 | sl e=>
  rw [hts] at h1;simp only at h1;cases hst:isStr (G.ty t) with
  | false=>rw [hst] at h1; exact ny2' ok hev hr ho hs hc h1
  | true=>
   rw [hst,cond_true] at h1;obtain ⟨hg,h2⟩:=M.bindneed h1;obtain ⟨l,hl,h3⟩:=M.bindopt h2;simp [M.ret] at h3; subst h3;rw [Bool.and_eq_true] at hg
   have hu8:P.underlying e=some (.int .u8):=by
    have:=hg.1
    unfold isU8 at this;split at this
    ·rename_i hty; exact ok.int e .u8 hty
    ·simp at this
   have hty:P.underlying t=some .string:=by
    unfold isStr at hst;split at hst
    ·rename_i hty; exact ok.str t hty
    ·simp at hst
   have henc:=nbf4' (G:=G) ok hg.2
   have hsz:G.sz e=1:=by
    have h1:=(ok.sl s e hts).2.2.2 (G.dfl e);obtain ⟨n,hn⟩:=henc (G.dfl e);rw [hn] at h1; simpa using h1.symm
   obtain ⟨a,cap,hv,hnil,vs,hvl,hcell,_,hrel⟩:=nnb' ok hr hts hl (rcOf hev hc);have hus:=(ok.sl s e hts).1;refine Runs.value hr rfl (v:=.string (nxf' G e l)) ?_ fun s hs=>?_
   ·unfold execOp; rw [ho]
    simp only [hv,Sem.run_bind];cases a with
    | none=>
     obtain rfl:=hnil rfl;rw [run_convert_bytes_string w s t e none _ cap hus hu8 hty];simp [Conv.bytesToString,nxf'];rfl
    | some a=>
     have hns:vs=(l.map fun x=>intC (G.enc e x)).map (Value.int .u8):=by
      apply List.ext_getElem?;intro i;rw [List.map_map,List.getElem?_map];cases hi:l[i]? with
      | none=>
       rw [List.getElem?_eq_none_iff] at hi;simp only [Option.map_none];rw [List.getElem?_eq_none_iff];rw [hvl,hsz]; omega
      | some x=>
       obtain ⟨n,hn⟩:=henc x;obtain ⟨u,hu,hr'⟩:=hrel i 0 x _ hi (by rw [hn]; rfl)
       rw [hsz,Nat.mul_one,Nat.add_zero] at hu;rw [hu];cases hr';simp [hn,intC]
     have hload:=run_loadCells_list (P:=P) w a vs (fun j u hj=>hcell a rfl j u hj)
     rw [hvl,hsz,Nat.mul_one,hns] at hload;rw [run_convert_bytes_string w s t e (some a) _ cap hus hu8 hty,run_bytesToString w a l.length cap (l.map fun x=>intC (G.enc e x)) hload,nxk']
     simp only [nxf',List.map_map]
     have e1:(fun n:Int=>UInt8.ofNat n.toNat) ∘ (fun x=>intC (G.enc e x))=fun x=>byteC (G.enc e x):=by
      funext x;obtain ⟨n,hn⟩:=henc x;simp [hn,intC,byteC]
     rw [e1,show ByteArray.empty.data=(#[]:Array UInt8) from rfl,Array.empty_append]
     rfl
   ·simp at hs; subst hs
    exact .p _ _ (.one _ _ (.sc _ rfl))
 | _=>rw [hts] at h1; exact ny2' ok hev hr ho hs hc h1
omit ok
theorem nv6' {x y:Operand} {tys:Array TypeId} {xs:Array Operand} {b:Builtin} (hb:b=.min∨b=.max) (ho:o.op=.call ⟨.builtin b,xs,tys⟩) (hxs:xs.toList=[x,y])
  (hact:nt' ev h nm b tys.toList xs.toList (Out G) some=some out):Runs P G ρ o ν S B h w out:=by
 rw [hxs] at hact;have hxs':xs=#[x,y]:=by rw [← Array.toArray_toList (xs:=xs),hxs]
 rcases hb with rfl | rfl
 ·simp only [nt',bMin] at hact
  obtain ⟨k,m,hm,h1⟩:=bindI hact;obtain ⟨k',n,hn,h2⟩:=bindI h1;obtain ⟨he,h3⟩:=M.bindneed h2;have e:=ndt' he;simp at e; subst e;simp [M.ret] at h3; subst h3;refine Runs.outV hr (nb4' ho (fun _=>rfl) ?_) rfl
  simp [Builtin.min_,hxs',(scOf hev hm).1,(scOf hev hn).1,Builtin.min2]
 ·simp only [nt',bMax] at hact
  obtain ⟨k,m,hm,h1⟩:=bindI hact;obtain ⟨k',n,hn,h2⟩:=bindI h1;obtain ⟨he,h3⟩:=M.bindneed h2;have e:=ndt' he;simp at e; subst e;simp [M.ret] at h3; subst h3;refine Runs.outV hr (nb4' ho (fun _=>rfl) ?_) rfl
  simp [Builtin.max_,hxs',(scOf hev hm).1,(scOf hev hn).1,Builtin.max2]
theorem nug' {x y z:Operand} {tys:Array TypeId} {xs:Array Operand} {b:Builtin} (hb:b=.min∨b=.max) (ho:o.op=.call ⟨.builtin b,xs,tys⟩) (hxs:xs.toList=[x,y,z])
  (hact:nt' ev h nm b tys.toList xs.toList (Out G) some=some out):Runs P G ρ o ν S B h w out:=by
 rw [hxs] at hact;have hxs':xs=#[x,y,z]:=by rw [← Array.toArray_toList (xs:=xs),hxs]
 rcases hb with rfl | rfl
 ·simp only [nt',bMin3] at hact
  obtain ⟨k,m,hm,h1⟩:=bindI hact;obtain ⟨k',n,hn,h2⟩:=bindI h1;obtain ⟨k2,p,hp,h2⟩:=bindI h2;obtain ⟨he,h3⟩:=M.bindneed h2;obtain ⟨he2,h3⟩:=M.bindneed h3;have e:=ndt' he;have e2:=ndt' he2;simp at e e2; subst e; subst e2;simp [M.ret] at h3; subst h3;refine Runs.outV hr (nb4' ho (fun _=>rfl) ?_) rfl
  simp [Builtin.min_,hxs',(scOf hev hm).1,(scOf hev hn).1,(scOf hev hp).1,Builtin.min2];by_cases g:n < m <;> simp [g]
 ·simp only [nt',bMax3] at hact
  obtain ⟨k,m,hm,h1⟩:=bindI hact;obtain ⟨k',n,hn,h2⟩:=bindI h1;obtain ⟨k2,p,hp,h2⟩:=bindI h2;obtain ⟨he,h3⟩:=M.bindneed h2;obtain ⟨he2,h3⟩:=M.bindneed h3;have e:=ndt' he;have e2:=ndt' he2;simp at e e2; subst e; subst e2;simp [M.ret] at h3; subst h3;refine Runs.outV hr (nb4' ho (fun _=>rfl) ?_) rfl
  simp [Builtin.max_,hxs',(scOf hev hm).1,(scOf hev hn).1,(scOf hev hp).1,Builtin.max2];by_cases g:m < n <;> simp [g]
omit hev hr
theorem n5s' {t e:TypeId} (hu:P.underlying t=some (.slice e)) {i:TypeInfo} (hi:P.info? e=some i) (ty:TypeId) (a:Option Addr) (n cap:Nat) (hcap:n≤cap) (b:Option Addr) (c:Nat) :
  (Builtin.append_ #[t,t] ty #[.slice a n cap,.slice b 0 c]).run P w=.ok (.slice a n cap) w:=by
 cases b <;> cases a <;> simp [Builtin.append_,run_underlying hu,sizeOf,typeInfo,hi,Builtin.lenOf,hcap,Builtin.firstCells,loadCells,loadCellsFrom,storeCells]
def dropO (h:Nat→Option (Blk G.T)) (n0:Option Nat) (m:Nat):Option (Blk G.T):=
 match n0 with
 | some n=>if n=m then none else h m
 | none=>h m
include hev hr hB hfresh ok
theorem n5p' {t:Nat} {x y:Operand} {tys:Array TypeId} {xs:Array Operand} (ho:o.op=.call ⟨.builtin .append,xs,tys⟩) (htys:tys.toList=[t,t]) (hxs:xs.toList=[x,y])
  (hact:nt' ev h nm .append tys.toList xs.toList (Out G) some=some out):Runs P G ρ o ν S B h w out:=by
 rw [htys,hxs] at hact;have hxs':xs=#[x,y]:=by rw [← Array.toArray_toList (xs:=xs),hxs]
 have htys':tys=#[t,t]:=by rw [← Array.toArray_toList (xs:=tys),htys]
 cases ht:G.ty t with
 | sl e=>
  simp only [nt',nht',ht] at hact;obtain ⟨_,h0⟩:=M.bindneed hact;obtain ⟨c,hc,h1⟩:=bindC h0;obtain ⟨c',hc',h2⟩:=bindC h1;obtain ⟨l,hl,h3⟩:=M.bindopt h2;obtain ⟨l',hl',h4⟩:=M.bindopt h3;obtain ⟨hmax,h5⟩:=M.bindneed h4;have hmax:l.length + l'.length≤2147483648:=Nat.le_of_ble_eq_true hmax;obtain ⟨hu,he,⟨i,hi,hib⟩,hel⟩:=ok.sl t e ht;obtain ⟨i',z,hi',his,hiz,hzc⟩:=ok.info e he;rw [hi] at hi'; simp at hi'; subst hi';have hpos:=ok.pos _ he;have hzs:z.cells.size=G.sz e:=by rw [← ok.zlen e,← hzc]; simp
  obtain ⟨a',cap',hv',hnone',vs',hvl',hvc',hv1',hvr'⟩:=nnb' ok hr ht hl' (rcOf hev hc')
  have main:∀ (D:List (Nat×Option (Blk G.T))) (n0:Option Nat) (rd:List Nat),out=⟨some (.p (.one (.own nm))),D++[(nm,some (.row e (l++l')))],[nm],rd⟩ →
    (D=(match n0 with | some n=>[(n,none)] | none=>[])) →
    (∃ (xs0:List Value),w.ownsRow 0 e (G.sz e) (ρ x) l.length xs0∧(∀ (i j:Nat) y cv,l[i]?=some y→(G.enc e y)[j]?=some cv→∃ u,xs0[i * G.sz e + j]?=some u∧Rd G S w.heap cv u)) →
    (∀ b,(ρ x).ownBlock=some b→∃ n y,n0=some n∧h n ≠ none∧ν n=some y∧blkOf y=some b)→(∀ n,n0=some n→n ≠ nm)→Runs P G ρ o ν S B h w out:=by
   intro D n0 rd hout hD ⟨xs0,hown,hrow⟩ hblk hne;have hν:ν nm=none:=hfresh nm (by rw [hout]; simp)
   have hbytes:(l.length + l'.length) * i.bytes≤140737488355328:=by
    have:(l.length + l'.length) * i.bytes≤2147483648 * 4096:=Nat.mul_le_mul hmax hib
    omega
   have hrun:∃ v' w',(Builtin.append_ #[t,t] o.type #[ρ x,ρ y]).run P w=.ok v' w'∧w'.ownsRow 0 e (G.sz e) v' (l.length + l'.length) (xs0++vs')∧w.grownBy w' (ρ x).ownBlock ∧
     (v'.ownBlock=(ρ x).ownBlock∨v'.ownBlock=some w.heap.size):=by
    cases a' with
    | some ad=>
     obtain ⟨v',w',h1,h2,h3,_,h5⟩:=Go.run_append_own_at (P:=P) w 0 t o.type e i z (G.sz e) i.bytes hu hi hiz his rfl hzs hpos (ρ x) l.length xs0 hown ad l'.length cap' vs' hvl' (fun j u hu=>hvc' ad rfl j u hu) hv1' (by unfold maxLen; omega) hbytes (Nat.zero_le _)
     exact ⟨v',w',by rw [hv']; exact h1,h2,h3,h5⟩
    | none=>
     have hz:=hnone' rfl;subst hz;simp at hvl';subst hvl'
     have hsl:∃ a0 cap0,ρ x=.slice a0 l.length cap0∧l.length≤cap0:=by
      rcases hown.2 with ⟨h1,h2⟩ | ⟨g,cap,cur,h1,_,_,h4,_⟩
      ·exact ⟨none,0,by rw [h1,h2],by omega⟩
      ·exact ⟨_,cap,h1,h4⟩
     obtain ⟨a0,cap0,hx0,hcap0⟩:=hsl;refine ⟨ρ x,w,?_,by simpa using hown,⟨rfl,rfl,rfl,Nat.le_refl _,fun _ _ _=>rfl⟩,.inl rfl⟩
     rw [hx0,hv'];exact n5s' hu hi _ a0 _ cap0 hcap0 none cap'
   obtain ⟨v',w',hr1,hr2,hr3,hr4⟩:=hrun;have hkeep:∀ b,b < w.heap.size→(∀ y,(ρ x).ownBlock=some y→y ≠ b)→w'.heap[b]?=w.heap[b]?:=fun b hb hn=>hr3.block b hb (fun e=>hn b e.symm rfl)
   have hSkeep:∀ b,S b→w'.heap[b]?=w.heap[b]?:=fun b hb=>hkeep b (hr.stay b hb) fun y hy e=>by
    obtain ⟨n,y',_,hn,hy',hb'⟩:=hblk y hy;subst e;exact (hr.own n y' y hn hy' hb').1 hb
   have hrow':Rb G (ext ν nm v') S w'.heap nm (.row e (l++l')):=by
    have hcells:∀ (i j:Nat) y cv,(l++l')[i]?=some y→(G.enc e y)[j]?=some cv→∃ u,(xs0++vs')[i * G.sz e + j]?=some u∧Rd G S w'.heap cv u:=by
     intro i j y cv hy hcv;have hj:j < G.sz e:=by have:=(List.getElem?_eq_some_iff.1 hcv).1; rw [hel] at this; exact this
     rw [List.getElem?_append] at hy;by_cases hi:i < l.length
     ·rw [if_pos hi] at hy
      obtain ⟨u,hu,hrd⟩:=hrow i j y cv hy hcv;have h6:(i + 1) * G.sz e≤l.length * G.sz e:=Nat.mul_le_mul_right _ (by omega)
      rw [Nat.add_mul] at h6;exact ⟨u,by rw [List.getElem?_append_left (by rw [hown.1]; omega)]; exact hu,hrd.mono (fun _ h=>h) hSkeep⟩
     ·rw [if_neg hi] at hy
      obtain ⟨u,hu,hrd⟩:=hvr' (i - l.length) j y cv hy hcv;have h6:i * G.sz e=l.length * G.sz e + (i - l.length) * G.sz e:=by rw [← Nat.add_mul]; congr 1; omega
      refine ⟨u,?_,hrd.mono (fun _ h=>h) hSkeep⟩
      rw [List.getElem?_append_right (by rw [hown.1]; omega),hown.1,show i * G.sz e + j - l.length * G.sz e=(i - l.length) * G.sz e + j by omega]
      exact hu
    have hlen:(l++l').length=l.length + l'.length:=by simp
    rcases hr2.2 with ⟨g1,g2⟩ | ⟨g,cap,cur,g1,_,g3,g4,g5,g6,g7⟩
    ·refine .inl ⟨by rw [nbt',g1],List.eq_nil_of_length_eq_zero (by rw [hlen]; exact g2)⟩
    ·refine .inr ⟨g,cap,cur,e,by rw [nbt',g1,hlen],g3,by rw [hlen]; exact g4,g6,fun i j y cv hy hcv=>?_,rfl,g5⟩
     obtain ⟨u,hu,hrd⟩:=hcells i j y cv hy hcv;refine ⟨u,?_,hrd⟩;rw [← g7] at hu
     have hlt:i * G.sz e + j < (l.length + l'.length) * G.sz e:=by
      have:=(List.getElem?_eq_some_iff.1 hu).1
      simp at this; omega
     rw [List.getElem?_take_of_lt hlt] at hu;simpa using hu
   generalize hh':dropO h n0=h'
   have hsub:∀ m,h' m ≠ none→h' m=h m:=by
    intro m hm;subst hh';cases n0 with
    | none=>rfl
    | some n=>
     by_cases e:n=m
     ·simp [dropO,e] at hm
     ·simp [dropO,e]
   have hr':=hr.sub hsub
   have hnotown:∀ m y b,h' m ≠ none→ν m=some y→blkOf y=some b→(ρ x).ownBlock ≠ some b:=by
    intro m y b hm hy hb e;obtain ⟨n,y',hn0,hn,hy',hb'⟩:=hblk b e
    have:=hr.apart m n y y' b (by rw [← hsub m hm]; exact hm) hn hy hy' hb hb'
    subst this;exact hm (by rw [← hh']; simp [dropO,hn0])
   have hadd:=hr'.add (nm:=nm) (x:=v') (k:=.row e (l++l')) (w':=w') hν (fun b hb hor=>hkeep b hb fun y hy e=>by
     subst e;rcases hor with hS | ⟨m,y',hm,hy',hb'⟩
     ·obtain ⟨n,y',_,hn,hy',hb'⟩:=hblk y hy
      exact (hr.own n y' y hn hy' hb').1 hS
     ·exact hnotown m y' y hm hy' hb' hy) hr3.size (fun b hb=>by
     have hvb:v'.ownBlock=some b:=by
      rcases hr2.2 with ⟨g1,_⟩ | ⟨g,cap,cur,g1,_⟩
      ·rw [g1] at hb; simp [blkOf] at hb
      ·rw [g1] at hb ⊢; simpa [blkOf,Value.ownBlock] using hb
     rcases hr4 with e | e
     ·rw [hvb] at e
      obtain ⟨n,y,_,hn,hy,hb'⟩:=hblk b e.symm;obtain ⟨q1,q2⟩:=hr.own n y b hn hy hb';exact ⟨q1,q2,fun m y' hm hy' hb''=>hnotown m y' b hm hy' hb'' e.symm⟩
     ·rw [hvb] at e; simp at e; subst e
      exact ⟨fun hS=>absurd (hr.stay _ hS) (Nat.lt_irrefl _),hB _ (Nat.le_refl _),fun m y hm hy hb'=>absurd (hr'.lt hm hy hb') (Nat.lt_irrefl _)⟩) hrow'
   refine ⟨.value v',w',v',ext ν nm v',S,nb4' ho (s:=Builtin.append_ tys o.type (xs.map ρ)) (fun _=>rfl) (by rw [htys',hxs']; simpa using hr1),.inl rfl,?_⟩
   subst hout;refine ⟨nw9' hν,n58',fun _ h=>h,fun _ h=>.inl h,?_,fun s hs=>?_,hr3.size,fun b hb hn=>hkeep b hb fun y hy e=>?_,hr3.os,hr3.tape,hr3.output⟩
   ·have:appD h (D++[(nm,some (.row e (l++l')))])=fun m=>if nm=m then some (.row e (l++l')) else h' m:=by
     subst hD;cases n0 with
     | none=>funext m; simp [appD,← hh',dropO]
     | some n=>funext m; simp [appD,← hh',dropO]
    simp only [this];exact hadd
   ·simp at hs; subst hs
    refine .p _ _ (.one _ _ ?_);rcases hr2.2 with ⟨g1,g2⟩ | ⟨g,cap,cur,g1,_⟩
    ·exact ⟨_,_,_,nbt',g1⟩
    ·exact ⟨_,_,_,nbt',g1⟩
   ·obtain ⟨n,y',_,hn',hy',hb'⟩:=hblk y hy
    subst e;exact hn n y' hn' hy' hb'
  unfold appC at h5;cases c with
  | sc v=>
   simp [M.ret] at h5;obtain ⟨hρ,hsc⟩:=scOf hev hc
   have hl0:v=.slice none 0 0∧l=[]:=by
    unfold elems at hl;split at hl
    ·rename_i heq; simp at hl heq; exact ⟨heq,by first | exact hl | exact hl.symm⟩
    ·rename_i heq; simp at heq
    ·rename_i heq; simp at heq
    ·simp at hl
   obtain ⟨rfl,rfl⟩:=hl0;refine main [] none c'.rds h5.symm rfl ⟨[],⟨by simp,.inl ⟨hρ,by simp⟩⟩,by simp⟩ (fun b hb=>?_) (by simp)
   rw [hρ] at hb; simp [Value.ownBlock] at hb
  | own n=>
   obtain ⟨hnn,h6⟩:=M.bindneed h5;simp [M.ret] at h6;obtain ⟨av,lenv,capv,hνn,hρ⟩:=rcOf hev hc;unfold elems at hl;simp only at hl;split at hl
   ·rename_i t' l0 hn
    obtain ⟨rfl,rfl⟩:=npg' hl;refine main [(n,none)] (some n) (n :: c'.rds) h6.symm rfl ?_ (fun b hb=>?_) (fun n' hn' e=>?_)
    ·rcases hr.blk n _ hn with ⟨g1,g2⟩ | ⟨b,cap,cc,te,g1,g2,g3,g4,g5,g6,g7⟩
     ·rw [hνn] at g1; simp at g1
      subst g2;exact ⟨[],⟨by simp,.inl ⟨g1,by simp⟩⟩,by simp⟩
     ·rw [hνn] at g1; simp at g1
      subst g6;have hmul:l.length * G.sz te≤cap * G.sz te:=Nat.mul_le_mul_right _ g3;refine ⟨cc.toList.take (l.length * G.sz te),⟨by simp; omega,.inr ⟨b,cap,cc,g1,Nat.zero_le _,g2,g3,g7,g4,rfl⟩⟩,fun i j y cv hy hcv=>?_⟩
      obtain ⟨u,hu,hrd⟩:=g5 i j y cv hy hcv;have hi:i < l.length:=(List.getElem?_eq_some_iff.1 hy).1;have hj:j < G.sz te:=by have:=(List.getElem?_eq_some_iff.1 hcv).1; rw [hel] at this; exact this
      have:(i + 1) * G.sz te≤l.length * G.sz te:=Nat.mul_le_mul_right _ (by omega)
      rw [Nat.add_mul] at this;exact ⟨u,by rw [List.getElem?_take_of_lt (by omega)]; simpa using hu,hrd⟩
    ·refine ⟨n,ρ x,rfl,by rw [hn]; simp,hνn,?_⟩
     rw [hρ] at hb ⊢;cases av with
     | none=>simp [Value.ownBlock] at hb
     | some ad=>simpa [Value.ownBlock,blkOf] using hb
    ·simp at hn'; subst hn'; subst e
     have:=hfresh n (by rw [← h6]; simp)
     rw [hνn] at this; simp at this
   ·simp at hl
  | _=>simp [M.fail] at h5
 | _=>simp [nt',nht',ht,M.fail] at hact
end
end Go.Ab
namespace Go.Ab
variable {G:Sig}
def Law {α:Type} (m:M α):Prop:=∀ (R:Type) (k:α→Option R),m R k=(m α some).bind k
theorem Law.spec {α R:Type} {m:M α} (h:Law m) {k:α→Option R} {r:R} (hm:m R k=some r):∃ a,m α some=some a∧k a=some r:=by
 rw [h R k] at hm;cases hv:m α some with
 | none=>rw [hv] at hm; simp at hm
 | some a=>rw [hv] at hm; exact ⟨a,rfl,hm⟩
theorem nf' {α:Type} (a:α):Law (M.ret a):=fun _ _=>rfl
theorem ni' {α:Type}:Law (M.fail:M α):=fun _ _=>rfl
theorem nj' (b:Bool):Law (M.need b):=fun _ _=>by cases b <;> rfl
theorem nx' {α:Type} (o:Option α):Law (M.opt o):=fun _ _=>by cases o <;> rfl
theorem nz8' (b:Bool):Law (M.split b):=fun _ _=>by cases b <;> rfl
theorem nb' {α β:Type} {m:M α} {f:α→M β} (hm:Law m) (hf:∀ a,Law (f a)):Law (M.bind m f):=fun R k=>by
 show m R (fun a=>f a R k)=(m β (fun a=>f a β some)).bind k
 rw [hm R,hm β];cases m α some with
 | none=>rfl
 | some a=>exact hf a R k
section
variable {cf:CallF G} (hcf:∀ g args h nm,Law (cf g args h nm)) {ev:Operand→Option (Sv G.T)} {h:Nat→Option (Blk G.T)} {nm:Nat}
theorem nku' (x:Operand):Law (evP ev x):=fun R k=>by unfold evP; split <;> rfl
theorem nbz' (x:Operand):Law (evC ev x):=fun R k=>by unfold evC; split <;> rfl
theorem nch' (x:Operand):Law (evI ev x):=fun R k=>by unfold evI; split <;> rfl
theorem nbfc' (x:Operand):Law (evB ev x):=fun R k=>by unfold evB; split <;> rfl
theorem nmz':∀ xs:List Operand,Law (evPs ev xs)
 | []=>nf' _
 | x :: t=>nb' (nku' x) fun _=>nb' (nmz' t) fun _=>nf' _
theorem nji':∀ xs:List (Nat×Operand),Law (ne7' ev xs)
 | []=>nf' _
 | (_,x) :: t=>nb' (nku' x) fun _=>nb' (nji' t) fun _=>nf' _
theorem nnn' (d m:Nat) (x:Option Operand):Law (ndi' ev d m x):=by
 cases x with
 | none=>exact nf' _
 | some x=>unfold ndi'; exact nb' (nch' x) fun _=>nb' (nj' _) fun _=>nf' _
theorem nt5' (x:Operand):Law (aMove ev x):=fun R k=>by unfold aMove; split <;> rfl
theorem nwp' {α:Type} {k:Nat→M α} (hk:∀ q,Law (k q)) (i:Nat):∀ n q:Nat,Law (M.pick k i q n)
 | 0,_=>ni'
 | n + 1,q=>by
  unfold M.pick;refine nb' (nz8' _) fun b=>?_
  cases b
  ·exact nwp' hk i n (q + 1)
  ·exact hk q
theorem nbeh' (e:Nat) (c:Cv G.T):Law (lenS h e c):=by
 unfold lenS;split
 ·exact nf' _
 ·exact nb' (nx' _) fun _=>nf' _
theorem nbb9' (t e:Nat) (l:List (G.T e)) (c c':Cv G.T):Law (copyC h t e l c c'):=by
 unfold copyC;split
 ·split <;> first | exact ni' | exact nb' (nj' _) fun _=>nb' (nx' _) fun _=>nf' _
 ·split <;> first | exact ni' | exact nb' (nj' _) fun _=>nb' (nx' _) fun _=>nb' (nj' _) fun _=>nf' _
 ·exact ni'
theorem n4u' (e len:Nat) (cs:List (Cv G.T)):Law (nsl' h nm e len cs):=by
 unfold nsl';split
 ·exact nb' (nj' _) fun _=>nf' _
 ·exact nb' (nx' _) fun _=>nb' (nx' _) fun _=>nf' _
theorem n8t' (c:Cv G.T) (cs:List (Cv G.T)):Law (ntx' h c cs):=by
 unfold ntx';split
 ·exact nb' (nx' _) fun _=>nb' (nj' _) fun _=>nb' (nx' _) fun _=>nf' _
 ·unfold nok'; exact nb' (nx' _) fun _=>nf' _
theorem nbe5' (op:BinOp) (x y:Value):Law (bin op x y):=by
 unfold bin;split
 ·unfold nn8'
  split <;> first
   | exact nb' (nj' _) fun _=>nf' _
   | exact nb' (nj' _) fun _=>nb' (nx' _) fun _=>nf' _
   | exact nb' (nj' _) fun _=>nb' (nj' _) fun _=>nf' _
 ·unfold nyw'
  split <;> exact nb' (nj' _) fun _=>nb' (nx' _) fun _=>nf' _
 ·unfold nyn'
  split <;> first | exact ni' | exact nf' _ | exact nb' (nj' _) fun _=>nf' _
 ·exact ni'
theorem n5f' (b:Builtin) (tys:List Nat) (xs:List Operand):Law (nt' ev h nm b tys xs):=by
 unfold nt';split
 ·unfold bLen
  split
  ·refine nb' (nbz' _) fun c=>?_
   split <;> first | exact ni' | exact nf' _
  ·exact nf' _
  ·exact nb' (nbz' _) fun _=>nbeh' _ _
  ·exact ni'
 ·unfold bMin; exact nb' (nch' _) fun _=>nb' (nch' _) fun _=>nb' (nj' _) fun _=>nf' _
 ·unfold bMax; exact nb' (nch' _) fun _=>nb' (nch' _) fun _=>nb' (nj' _) fun _=>nf' _
 ·unfold bMin3; exact nb' (nch' _) fun _=>nb' (nch' _) fun _=>nb' (nch' _) fun _=>nb' (nj' _) fun _=>nb' (nj' _) fun _=>nf' _
 ·unfold bMax3; exact nb' (nch' _) fun _=>nb' (nch' _) fun _=>nb' (nch' _) fun _=>nb' (nj' _) fun _=>nb' (nj' _) fun _=>nf' _
 ·unfold nht'
  split
  ·refine nb' (nj' _) fun _=>nb' (nbz' _) fun c=>nb' (nbz' _) fun _=>nb' (nx' _) fun _=>nb' (nx' _) fun _=>nb' (nj' _) fun _=>?_
   unfold appC;split
   ·exact nf' _
   ·exact nb' (nj' _) fun _=>nf' _
   ·exact ni'
  ·exact ni'
 ·unfold bCopy
  split
  ·exact nb' (nj' _) fun _=>nb' (nbz' _) fun _=>nb' (nbz' _) fun _=>nb' (nx' _) fun _=>nbb9' _ _ _ _ _
  ·exact ni'
 ·exact ni'
include hcf
theorem nvn' (op:Op):Law (act cf ev h nm op):=by
 cases op
 case makeFunc fn a b=>
  cases fn
  case func f=>show Law (aFunc ev f a.toList b.toList); unfold aFunc; exact nb' (nmz' _) fun _=>nb' (nmz' _) fun _=>nb' (nx' _) fun _=>nb' (nx' _) fun _=>nf' _
  all_goals exact ni'
 case call c=>
  obtain ⟨callee,xs,tys⟩:=c;cases callee
  case value f=>
   show Law (aCall cf ev h nm f xs.toList); unfold aCall;refine nb' (nbz' _) fun c=>nb' (nmz' _) fun a=>?_
   cases c <;> try exact ni'
   show Law (match G.ext _ with | 0=>_ | 1=>_ | _=>_)
   split
   ·exact hcf _ _ _ _
   ·unfold extB; split <;> first | exact ni' | exact nf' _
   ·unfold extF; split <;> first | exact ni' | exact nf' _
  case builtin b=>exact n5f' _ _ _
  case invoke=>exact ni'
 case move x=>exact nt5' x
 case assign x=>exact nt5' x
 case pick c a b=>show Law (aPick ev c a b); unfold aPick; exact nb' (nbfc' _) fun _=>nb' (nz8' _) fun _=>nt5' _
 case alloc t=>show Law (nue' nm t); unfold nue'; split <;> first | exact ni' | exact nf' _
 case box t x=>show Law (aBox ev nm x); unfold aBox; exact nb' (nku' _) fun _=>nb' (nj' _) fun _=>nf' _
 case build t ps=>
  show Law (nn9' ev t ps.toList); unfold nn9';split <;> first | exact ni' | exact nb' (nji' _) fun _=>nb' (nx' _) fun _=>nf' _
 case buildSlice t n ps=>
  show Law (nb2' ev h nm t n ps.toList); unfold nb2';split <;> first | exact ni' | exact nb' (nji' _) fun _=>nb' (nj' _) fun _=>nb' (nx' _) fun _=>n4u' _ _ _
 case load t a=>show Law (aLoad ev h t a); unfold aLoad; exact nb' (nbz' _) fun _=>nb' (nx' _) fun _=>nb' (nx' _) fun _=>nf' _
 case store t a x=>show Law (nig' ev h t a x); unfold nig'; exact nb' (nbz' _) fun _=>nb' (nku' _) fun _=>nb' (nj' _) fun _=>n8t' _ _
 case nilCheck x=>show Law (aNil ev x); unfold aNil; exact nb' (nbz' _) fun _=>nb' (nj' _) fun _=>nf' _
 case binOp op t x y u=>
  show Law (aBin ev op t x y); unfold aBin;refine nb' (nku' _) fun a=>nb' (nku' _) fun b=>?_
  unfold binP;split
  ·unfold binS
   split
   ·split <;> first | exact ni' | exact nf' _
   ·exact nb' (nbe5' _ _ _) fun _=>nf' _
  ·refine nb' (nj' _) fun _=>nb' (nx' _) fun _=>?_
   split <;> first | exact ni' | exact nf' _
  ·exact ni'
 case unOp op t x=>
  show Law (aUn ev op x); unfold aUn;refine nb' (nbz' _) fun c=>?_
  unfold unP;split <;> first | exact ni' | exact nf' _ | exact nb' (nx' _) fun _=>nf' _
 case convert s t x=>
  show Law (aConv ev h s t x); unfold aConv;refine nb' (nj' _) fun _=>nb' (nbz' _) fun c=>?_
  have hcv:∀ y,Law (convC (G:=G) y c):=fun y=>by
   unfold convC;split <;> first | exact ni' | exact nf' _
  split
  ·cases isStr (G.ty t) with
   | true=>rw [cond_true]; refine nb' (nj' _) fun _=>nb' (nx' _) fun _=>nf' _
   | false=>rw [cond_false]; exact hcv _
  ·exact hcv _
 case makeSlice t x y=>
  show Law (nfp' ev nm t x y); unfold nfp';split <;> first | exact ni' | exact nb' (nch' _) fun _=>nb' (nch' _) fun _=>nb' (nj' _) fun _=>nb' (nx' _) fun _=>nf' _
 case slice t x lo hi mx=>
  show Law (nog' ev t x lo hi mx); unfold nog';split
  ·exact ni'
  ·split
   ·refine nb' (nbz' _) fun c=>?_
    unfold nr8';split <;> first | exact ni' | exact nb' (nnn' _ _ _) fun _=>nb' (nnn' _ _ _) fun _=>nf' _
   ·refine nb' (nbz' _) fun c=>?_
    unfold nrz';split <;> first | exact ni' | exact nb' (nj' _) fun _=>nb' (nnn' _ _ _) fun _=>nb' (nnn' _ _ _) fun _=>nf' _
   ·refine nb' (nbz' _) fun c=>?_
    unfold n3f';split <;> first | exact ni' | exact nf' _
   ·exact ni'
 case fieldAddr t x f=>
  show Law (nfm' ev t x f); unfold nfm';split <;> first | exact ni' | exact nb' (nbz' _) fun _=>nb' (nx' _) fun _=>nb' (nx' _) fun _=>nf' _
 case field t x f=>
  show Law (noe' ev t x f); unfold noe';split
  ·refine nb' (nku' _) fun y=>?_
   unfold nxj';split <;> first | exact ni' | exact nb' (nx' _) fun _=>nb' (nx' _) fun _=>nb' (nx' _) fun _=>nf' _
  ·exact ni'
 case indexAddr t x i=>
  show Law (nct' ev h t x i); unfold nct';split
  ·refine nb' (nbz' _) fun c=>nb' (nch' _) fun i=>?_
   unfold ixA;split <;> first | exact ni' | exact nb' (nj' _) fun _=>nb' (nx' _) fun _=>nb' (nx' _) fun _=>nf' _ | exact nb' (nj' _) fun _=>nf' _
  ·refine nb' (nbz' _) fun c=>nb' (nch' _) fun i=>?_
   unfold ixS;split
   ·split <;> first | exact ni' | exact nb' (nj' _) fun _=>nb' (nj' _) fun _=>nf' _
   ·exact nb' (nj' _) fun _=>nb' (nj' _) fun _=>nf' _
   ·exact nb' (nj' _) fun _=>nwp' (fun _=>nf' _) _ _ _
   ·exact ni'
  ·exact ni'
 case index t x i=>
  show Law (nn2' ev t x i); unfold nn2';split
  ·refine nb' (nku' _) fun c=>nb' (nch' _) fun i=>?_
   unfold ixArr;split
   ·refine nb' (nj' _) fun _=>?_
    split
    ·exact nwp' (fun _=>nb' (nx' _) fun _=>nb' (nx' _) fun _=>nf' _) _ _ _
    ·exact nb' (nx' _) fun _=>nb' (nx' _) fun _=>nf' _
   ·exact ni'
  ·refine nb' (nbz' _) fun c=>nb' (nch' _) fun i=>?_
   unfold ixV;split <;> first | exact ni' | exact nb' (nj' _) fun _=>nf' _
  ·exact ni'
 case extract x i=>
  show Law (nic' ev x i);intro R k;unfold nic';split
  ·split <;> rfl
  ·rfl
 all_goals exact ni'
end
end Go.Ab
namespace Go.Ab
variable {G:Sig}
theorem nbaw' {l:List (Pv G.T)} {out:Out G} (h:extB l (Out G) some=some out):∃ n,l=[.one (.sc (.float .f64 n))]∧out=outV (.int .u64 (n:Int)):=by
 rcases l with _ | ⟨x,_ | ⟨y,t⟩⟩
 ·simp [extB,M.fail] at h
 ·cases x with
  | agg _=>simp [extB,M.fail] at h
  | one c=>
   cases c with
   | sc v=>
    cases v with
    | float k n=>
     cases k with
     | f32=>simp [extB,M.fail] at h
     | f64=>exact ⟨n,rfl,(Option.some.inj h).symm⟩
    | _=>simp [extB,M.fail] at h
   | _=>simp [extB,M.fail] at h
 ·simp [extB,M.fail] at h
theorem n9a' {l:List (Pv G.T)} {out:Out G} (h:extF l (Out G) some=some out):∃ n,l=[.one (.sc (.int .u64 n))]∧out=outV (.float .f64 n.toNat):=by
 rcases l with _ | ⟨x,_ | ⟨y,t⟩⟩
 ·simp [extF,M.fail] at h
 ·cases x with
  | agg _=>simp [extF,M.fail] at h
  | one c=>
   cases c with
   | sc v=>
    cases v with
    | int k n=>cases k <;> first | exact ⟨n,rfl,(Option.some.inj h).symm⟩ | simp [extF,M.fail] at h
    | _=>simp [extF,M.fail] at h
   | _=>simp [extF,M.fail] at h
 ·simp [extF,M.fail] at h
structure CfOK (P:Program) (G:Sig) (cf:CallF G):Prop where
 law:∀ g args h nm,Law (cf g args h nm)
 calls:∀ g args h nm out,cf g args h nm (Out G) some=some out →
  (∃ fn, P.funcs[g]? = some fn ∧ (fn.name == "runtime.NumGoroutine") = false ∧ fn.body.isNone = false) ∧
  ∀ (ν:Nat→Option Value) (S B:Nat→Prop) (w:World) (vals:List Value),HRel G ν S B h w→(∀ b,w.heap.size≤b→B b)→(∀ n ∈ out.nw,ν n=none)→F2 (Rp G ν S w.heap) args vals →
   Calls P g vals.toArray w fun e w'=>∃ v ν' S',e=.returned v∧Post G ν S B h w out (appD h out.d) ν' S' w' v
theorem ntt' {ev:Operand→Option (Sv G.T)} {h:Nat→Option (Blk G.T)} {nm:Nat} {out:Out G} {b:Builtin} {tys:List Nat} {xs:List Operand} (hact:nt' ev h nm b tys xs (Out G) some=some out) :
  (b=.len∧∃ t ts x,tys=t :: ts∧xs=[x])∨(b=.min∧∃ x y,xs=[x,y])∨(b=.max∧∃ x y,xs=[x,y])∨(b=.append∧∃ t x y,tys=[t,t]∧xs=[x,y]) ∨
  (b=.min∧∃ x y z,xs=[x,y,z])∨(b=.max∧∃ x y z,xs=[x,y,z])∨(b=.copy∧∃ t x y,tys=[t,t]∧xs=[x,y]):=by
 cases b with
 | len=>
  rcases tys with _ | ⟨t,ts⟩ <;> rcases xs with _ | ⟨x,_ | ⟨y,zs⟩⟩ <;> first | (simp [nt',M.fail] at hact; done) | exact .inl ⟨rfl,_,_,_,rfl,rfl⟩
 | min=>
  rcases xs with _ | ⟨x,_ | ⟨y,_ | ⟨z,_ | ⟨u,zs⟩⟩⟩⟩ <;> first | (simp [nt',M.fail] at hact; done) | exact .inr (.inl ⟨rfl,_,_,rfl⟩) | exact .inr (.inr (.inr (.inr (.inl ⟨rfl,_,_,_,rfl⟩))))
 | max=>
  rcases xs with _ | ⟨x,_ | ⟨y,_ | ⟨z,_ | ⟨u,zs⟩⟩⟩⟩ <;> first | (simp [nt',M.fail] at hact; done) | exact .inr (.inr (.inl ⟨rfl,_,_,rfl⟩)) | exact .inr (.inr (.inr (.inr (.inr (.inl ⟨rfl,_,_,_,rfl⟩)))))
 | append=>
  rcases tys with _ | ⟨t,_ | ⟨t',_ | ⟨t2,ts⟩⟩⟩ <;> rcases xs with _ | ⟨x,_ | ⟨y,_ | ⟨z,zs⟩⟩⟩ <;> first | (simp [nt',M.fail] at hact; done) | skip
  have hb:nht' ev h nm t t' x y (Out G) some=some out:=hact
  have:t=t':=by
   unfold nht' at hb;cases ht:G.ty t <;> simp only [ht] at hb <;> first | (simp [M.fail] at hb; done) | exact nw'.1 (M.bindneed hb).1
  subst this;exact .inr (.inr (.inr (.inl ⟨rfl,_,_,_,rfl,rfl⟩)))
 | copy=>
  rcases tys with _ | ⟨t,_ | ⟨t',_ | ⟨t2,ts⟩⟩⟩ <;> rcases xs with _ | ⟨x,_ | ⟨y,_ | ⟨z,zs⟩⟩⟩ <;> first | (simp [nt',M.fail] at hact; done) | skip
  have hb:bCopy ev h t t' x y (Out G) some=some out:=hact
  have:t=t':=by
   unfold bCopy at hb;cases ht:G.ty t <;> simp only [ht] at hb <;> first | (simp [M.fail] at hb; done) | exact nw'.1 (M.bindneed hb).1
  subst this;exact .inr (.inr (.inr (.inr (.inr (.inr ⟨rfl,_,_,_,rfl,rfl⟩)))))
 | _=>simp [nt',M.fail] at hact
section
variable {P:Program} {ν:Nat→Option Value} {S B:Nat→Prop} {h:Nat→Option (Blk G.T)} {w:World} {a:Act} {o:Oper}
variable (ok:SigOK P G) (eqok:EqOK P G) {cf:CallF G} (cfok:CfOK P G cf)
 {ev:Operand→Option (Sv G.T)} (hev:∀ x s,ev x=some s→Rs G ν S w.heap s (a.eval x)) (hr:HRel G ν S B h w) (hB:∀ b,w.heap.size≤b→B b)
 {nm:Nat} {out:Out G} (hfresh:∀ n ∈ out.nw,ν n=none)
include ok eqok cfok hev hr hB hfresh
theorem nbgs' (hact:act cf ev h nm o.op (Out G) some=some out) {K:Act→World→Prop} {Q:Exit→Act→World→Prop}
  (hK:∀ ν' S' w' v,Post G ν S B h w out (appD h out.d) ν' S' w' v→K (a.put o.dst v) w'):o.wp P a w K Q:=by
 have fin:Runs P G a.eval o ν S B h w out→o.wp P a w K Q:=by
  rintro ⟨nx,w',v,ν',S',hrun,hnx,hp⟩;unfold Oper.wp;rw [hrun];rcases hnx with rfl | ⟨rfl,rfl⟩
  ·exact hK _ _ _ _ hp
  ·exact hK _ _ _ _ hp
 cases ho:o.op with
 | move x=>rw [ho] at hact; exact fin (n09' hev hr (.inl ho) hact)
 | assign x=>rw [ho] at hact; exact fin (n09' hev hr (.inr ho) hact)
 | pick c x y=>rw [ho] at hact; exact fin (n9q' hev hr ho hact)
 | alloc t=>rw [ho] at hact; exact fin (n7i' ok hr hB hfresh ho hact)
 | box t x=>rw [ho] at hact; exact fin (nbeq' hev hr hB hfresh ho hact)
 | build t ps=>rw [ho] at hact; exact fin (n77' ok hev hr ho hact)
 | buildSlice t n ps=>rw [ho] at hact; exact fin (nyq' ok hev hr hB hfresh ho hact)
 | load t x=>rw [ho] at hact; exact fin (n9z' ok hev hr ho hact)
 | store t x y=>rw [ho] at hact; exact fin (n70' ok hev hr ho hact)
 | nilCheck x=>rw [ho] at hact; exact fin (nbdc' hev hr ho hact)
 | binOp op t x y u=>rw [ho] at hact; exact fin (nbd5' ok eqok hev hr ho hact)
 | unOp op t x=>rw [ho] at hact; exact fin (nbe3' hev hr ho hact)
 | convert s t x=>rw [ho] at hact; exact fin (nbbh' ok hev hr ho hact)
 | makeFunc fn x y=>
  rw [ho] at hact;cases fn with
  | func f=>exact fin (n11' hev hr ho hact)
  | _=>simp [act,M.fail] at hact
 | makeSlice t x y=>rw [ho] at hact; exact fin (nzl' ok hev hr hB hfresh ho hact)
 | slice t x lo hi mx=>rw [ho] at hact; exact fin (n8s' ok hev hr ho hact)
 | fieldAddr t x f=>rw [ho] at hact; exact fin (nzp' ok hev hr ho hact)
 | field t x f=>rw [ho] at hact; exact fin (n8b' ok hev hr ho hact)
 | indexAddr t x i=>rw [ho] at hact; exact fin (nzg' ok hev hr ho hact)
 | index t x i=>rw [ho] at hact; exact fin (n7r' ok hev hr ho hact)
 | extract x i=>rw [ho] at hact; exact fin (n3e' hev hr ho hact)
 | call c=>
  rw [ho] at hact;obtain ⟨callee,xs,tys⟩:=c;cases callee with
  | invoke r m=>exact absurd hact (by intro e; cases e)
  | builtin b=>
   have hact:nt' ev h nm b tys.toList xs.toList (Out G) some=some out:=hact;rcases ntt' hact with ⟨rfl,t,ts,x,h1,h2⟩ | ⟨rfl,x,y,h1⟩ | ⟨rfl,x,y,h1⟩ | ⟨rfl,t,x,y,h1,h2⟩ | ⟨rfl,x,y,z,h1⟩ | ⟨rfl,x,y,z,h1⟩ | ⟨rfl,t,x,y,h1,h2⟩
   ·exact fin (nbdk' ok hev hr ho ⟨_,h1⟩ h2 hact)
   ·exact fin (nv6' hev hr (.inl rfl) ho h1 hact)
   ·exact fin (nv6' hev hr (.inr rfl) ho h1 hact)
   ·exact fin (n5p' ok hev hr hB hfresh ho h1 h2 hact)
   ·exact fin (nug' hev hr (.inl rfl) ho h1 hact)
   ·exact fin (nug' hev hr (.inr rfl) ho h1 hact)
   ·exact fin (n9f' ok hev hr ho h1 h2 hact)
  | value f=>
   have hact:aCall cf ev h nm f xs.toList (Out G) some=some out:=hact;unfold aCall at hact;obtain ⟨c,hc,h1⟩:=bindC hact;obtain ⟨as,h2,has⟩:=nyy' h1;unfold callC at h2;cases c with
   | clo g fst caps=>
    simp only at h2;obtain ⟨vp,vq,hv,hvp,hvq⟩:=rcOf hev hc
    have hptr:∀ (ps:List (Nat×Nat)) (vs:List Value),F2 (RPtr ν) ps vs→F2 (Rp G ν S w.heap) (ps.map ptrP) vs:=fun ps vs hps=>
     F2.map_left (hps.mono fun p v hpv=>.one _ _ hpv)
    have hargs:F2 (Rp G ν S w.heap) as (xs.toList.map a.eval):=by
     refine ⟨by simp [has.1],fun i x v hx hv=>?_⟩
     rw [List.getElem?_map] at hv;cases hq:xs.toList[i]? with
     | none=>simp [hq] at hv
     | some y=>
      simp [hq] at hv; subst hv;exact rpOf hev (has.2 i y x hq hx)
    have hall:=(hptr _ _ hvp).append (hargs.append (hptr _ _ hvq))
    have hext:∀ (m:Nat) (u:Value),G.ext g=m→m ≠ 0→((extE m) (vp++(xs.toList.map a.eval++vq)).toArray).run P w=.ok u w→out=outV u→isSc u=true→o.wp P a w K Q:=by
     intro m u hm h0 hrun he hsc;obtain ⟨fn,f1,f2,f3,f4,f5⟩:=ok.ext g (by rw [hm]; exact h0)
     rw [hm] at f5;refine fin ?_;rw [he];refine Runs.outV hr ?_ hsc;unfold execOp; rw [ho]
     have:=run_callFunc_extern f1 f2 f3 f4 f5 (vp++(xs.toList.map a.eval++vq)).toArray w
     rw [hrun] at this;simp only [resolve,hv,Deferred.ofValue,invoke,Sem.run_bind,Sem.run_pure,Result.andThen_ok];rw [show (vp++(xs.toList.map a.eval++vq)).toArray=vp.toArray++(xs.map a.eval++vq.toArray) from by apply Array.ext'; simp] at this
     simpa using this
    generalize hm:G.ext g=m at h2
    match m,hm,h2 with
    | 1,hm,h2=>
     obtain ⟨n,hl,h3⟩:=nbaw' h2;rw [hl] at hall;obtain ⟨v0,t0,e0,hv0,ht0⟩:=hall.inv;obtain rfl:=ht0.inv_nil;have e1:v0=.float .f64 n:=by cases hv0 with | one _ _ hc=>cases (show Rd G S w.heap (.sc (.float .f64 n)) v0 from hc); rfl
     exact hext 1 _ hm (by omega) (by rw [e0,e1]; rfl) h3 rfl
    | m + 2,hm,h2=>
     obtain ⟨n,hl,h3⟩:=n9a' h2;rw [hl] at hall;obtain ⟨v0,t0,e0,hv0,ht0⟩:=hall.inv;obtain rfl:=ht0.inv_nil;have e1:v0=.int .u64 n:=by cases hv0 with | one _ _ hc=>cases (show Rd G S w.heap (.sc (.int .u64 n)) v0 from hc); rfl
     exact hext (m + 2) _ hm (by omega) (by rw [e0,e1]; rfl) h3 rfl
    | 0,hm,h2=>
     obtain ⟨⟨fn,hfn,hname,hbody⟩,hcalls⟩:=cfok.calls g _ h nm out h2;have hc:=hcalls ν S B w _ hr hB hfresh hall
     have hexec:(execOp a.eval o).run P w=.ok (.enter g (vp++(xs.toList.map a.eval++vq)).toArray) w:=by
      unfold execOp; rw [ho];simp only [resolve,hv,Deferred.ofValue,invoke,callFunc,Sem.run_bind,Sem.run_pure,Result.andThen_ok,run_program,hfn,hname,hbody];simp [← Array.toList_map]
     unfold Oper.wp;rw [hexec];refine hc.mono fun e w' ⟨v,ν',S',he,hp⟩=>?_
     subst he;exact hK _ _ _ _ hp
   | _=>simp [M.fail] at h2
 | _=>rw [ho] at hact; simp [act,M.fail] at hact
end
end Go.Ab
namespace Go.Ab
variable {G:Sig}
structure Cx where
 w0:World
 mo:Nat→Prop
 s0:Nat→Prop
 nu0:Nat→Option Value
 nt:Nat
def Cx.own (cx:Cx) (b:Nat):Prop:=cx.mo b∨cx.w0.heap.size≤b
structure RelI (G:Sig) (cx:Cx) (ν:Nat→Option Value) (S:Nat→Prop) (st:St G) (a:Act) (w:World):Prop where
 slot:∀ k s,get st.tm k=some s→Rs G ν S w.heap s (a.tmps.getD k undef)
 heap:HRel G ν S cx.own (get st.hp) w
 used:∀ n,ν n ≠ none→n ∈ st.us
 defers:a.defers=[]
 nt:a.tmps.size=cx.nt
 size:cx.w0.heap.size≤w.heap.size
 frame:∀ b,b < cx.w0.heap.size→¬ cx.mo b→w.heap[b]?=cx.w0.heap[b]?
 env:w.os=cx.w0.os∧w.tape=cx.w0.tape∧w.output=cx.w0.output
 sub:∀ b,S b→cx.s0 b∨cx.own b
 keep:∀ b,cx.s0 b→S b
 names:∀ n x,cx.nu0 n=some x→ν n=some x
def Rel (G:Sig) (cx:Cx) (st:St G) (a:Act) (w:World):Prop:=∃ ν S,RelI G cx ν S st a w
theorem Rel.drawn {cx:Cx} {st:St G} {a:Act} {w:World} (h:Rel G cx st a w) (n:Nat):Rel G cx st a { w with drawn:=n }:=
 let ⟨ν,S,r⟩:=h
 ⟨ν,S,⟨r.slot,⟨r.heap.blk,r.heap.apart,r.heap.own,r.heap.stay,r.heap.gl⟩,r.used,r.defers,r.nt,r.size,r.frame,r.env,r.sub,r.keep,r.names⟩⟩
theorem n62' {S:Nat→Prop} {h:Array Obj} {v:Value} (hv:isSc v=true):Rd G S h (.sc v) v:=.sc v hv
theorem n5a' {ν:Nat→Option Value} {S:Nat→Prop} {tm:List (Nat×Sv G.T)} {a:Act} {w:World} (hg:GlOK G S w.heap) (hs:∀ k s,get tm k=some s→Rs G ν S w.heap s (a.tmps.getD k undef)) (x:Operand) (s:Sv G.T)
  (he:evalO tm x=some s):Rs G ν S w.heap s (a.eval x):=by
 cases x with
 | tmp t=>exact hs t s he
 | global g=>
  simp only [evalO] at he;split at he
  ·rename_i p hp
   simp at he; subst he;exact .p _ _ (.one _ _ (hg g p hp))
  ·simp at he
 | func f=>
  simp [evalO] at he; subst he;exact .p _ _ (.one _ _ ⟨[],[],rfl,.nil,.nil⟩)
 | const v=>
  have one:(bif isSc v then some (Sv.p (Pv.one (Cv.sc v))) else none)=some s→Rs G ν S w.heap s v:=by
   intro h;cases hv:isSc v with
   | false=>simp [hv] at h
   | true=>simp [hv] at h; subst h; exact .p _ _ (.one _ _ (n62' hv))
  cases v with
  | agg cs=>
   simp only [evalO] at he;cases hall:cs.toList.all isSc with
   | false=>rw [hall] at he; simp at he
   | true=>
    rw [hall] at he; simp at he; subst he;refine .p _ _ ?_
    have:(Value.agg cs)=.agg cs.toList.toArray:=by simp
    show Rp G ν S w.heap _ (Value.agg cs);rw [this];refine .agg _ _ (F2.map_left ⟨rfl,fun i x y hx hy=>?_⟩)
    rw [hx] at hy; simp at hy; subst hy;exact n62' (List.all_eq_true.1 hall x (List.mem_of_getElem? hx))
  | _=>exact one he
theorem n4g' {a:Act} {d:Nat} {v:Value} (hd:d < a.tmps.size) (k:Nat):(a.put (some d) v).tmps.getD k undef=if d=k then v else a.tmps.getD k undef:=by
 simp only [Act.put,Array.getD_eq_getD_getElem?,Array.getElem?_setIfInBounds];by_cases e:d=k
 ·subst e; simp [hd]
 ·simp [e]
theorem n2o' {a:Act} {d:Option Nat} {v:Value}:(a.put d v).tmps.size=a.tmps.size:=by cases d <;> simp [Act.put]
theorem n75' {a:Act} {d:Option Nat} {v:Value}:(a.put d v).defers=a.defers:=by cases d <;> rfl
theorem RelI.drop {cx:Cx} {ν:Nat→Option Value} {S:Nat→Prop} {st:St G} {a:Act} {w:World} (r:RelI G cx ν S st a w) {d:Option Nat} (hd:dstOk cx.nt d=true) :
  RelI G cx ν S (st.drop d) (a.put d undef) w:=by
 cases d with
 | none=>exact r
 | some d=>
  have hlt:d < a.tmps.size:=by rw [r.nt]; simp [dstOk,Nat.blt] at hd; omega
  refine ⟨fun k s hk=>?_,r.heap,r.used,r.defers,by rw [n2o']; exact r.nt,r.size,r.frame,r.env,r.sub,r.keep,r.names⟩
  simp only [St.drop,npy'] at hk;rw [n4g' hlt];by_cases e:d=k
  ·rw [if_pos e] at hk ⊢; simp at hk; subst hk; exact .tup _ _ .nil
  ·rw [if_neg e] at hk ⊢
   exact r.slot k s hk
theorem RelI.note {cx:Cx} {ν:Nat→Option Value} {S:Nat→Prop} {st:St G} {a:Act} {w:World} (r:RelI G cx ν S st a w) {g:Nat} {b:Bool} (hg:get st.tm g=some (.p (.one (.sc (.bool b))))) :
  RelI G cx ν S (st.note (some (g,b))) a w:=by
 refine ⟨fun k s hk=>?_,r.heap,r.used,r.defers,r.nt,r.size,r.frame,r.env,r.sub,r.keep,r.names⟩
 simp only [St.note,npy'] at hk;by_cases e:g=k
 ·subst e; simp at hk; subst hk; exact r.slot g _ hg
 ·rw [if_neg e] at hk; exact r.slot k s hk
theorem n1j' {cx:Cx} {ν:Nat→Option Value} {S:Nat→Prop} {st:St G} {a:Act} {w:World} (r:RelI G cx ν S st a w) {g:Nat} {b:Bool} (hg:get st.tm g=some (.p (.one (.sc (.bool b))))) :
  a.tmps.getD g undef=.bool b:=by
 have h:=r.slot g _ hg;generalize a.tmps.getD g undef=v at h;cases h with
 | p _ _ h=>
  cases h with
  | one _ _ h=>
   have h':Rd G S w.heap (.sc (.bool b)) v:=h;cases h'; rfl
theorem RelI.next {cx:Cx} {ν:Nat→Option Value} {S:Nat→Prop} {st:St G} {a:Act} {w:World} (r:RelI G cx ν S st a w) {d:Option Nat} (hd:dstOk cx.nt d=true) {out:Out G}
  {ν':Nat→Option Value} {S':Nat→Prop} {w':World} {v:Value} (hp:Post G ν S cx.own (get st.hp) w out (appD (get st.hp) out.d) ν' S' w' v):RelI G cx ν' S' (st.next d out) (a.put d v) w':=by
 have le:=hp.le r.heap;refine ⟨fun k s hk=>?_,?_,fun n hn=>?_,by rw [n75']; exact r.defers,by rw [n2o']; exact r.nt,Nat.le_trans r.size hp.size,fun b hb hm=>?_,?_,fun b hb=>?_,fun b hb=>hp.st b (r.keep b hb),fun n x hn=>hp.nu n x (r.names n x hn)⟩
 ·cases d with
  | none=>exact (r.slot k s hk).mono le
  | some d=>
   have hlt:d < a.tmps.size:=by rw [r.nt]; simp [dstOk,Nat.blt] at hd; omega
   rw [n4g' hlt];simp only [St.next] at hk;split at hk
   ·rename_i u hu
    rw [npy'] at hk;by_cases e:d=k
    ·rw [if_pos e] at hk ⊢; simp at hk; subst hk; exact hp.val _ hu
    ·rw [if_neg e] at hk ⊢; exact (r.slot k s hk).mono le
   ·rw [nsb'] at hk
    by_cases e:d=k
    ·rw [if_pos e] at hk; simp at hk
    ·rw [if_neg e] at hk ⊢; exact (r.slot k s hk).mono le
 ·simp only [St.next,nsx']; exact hp.rel
 ·rcases hp.new n hn with h | h
  ·exact List.mem_append.2 (.inr (r.used n h))
  ·exact List.mem_append.2 (.inl h)
 ·rw [hp.frame b (Nat.lt_of_lt_of_le hb r.size) fun n x hn hx e=>?_]
  ·exact r.frame b hb hm
  ·rcases (r.heap.own n x b hn hx e).2 with h | h
   ·exact hm h
   ·omega
 ·exact ⟨hp.env.1.trans r.env.1,hp.env.2.1.trans r.env.2.1,hp.env.2.2.trans r.env.2.2⟩
 ·rcases hp.stn b hb with h | h
  ·exact r.sub b h
  ·exact .inr h
theorem num' {us l:List Nat} (h:fresh us l=true):∀ n ∈ l,n ∉ us:=by
 induction l with
 | nil=>simp
 | cons k t ih=>
  simp only [fresh,Bool.and_eq_true] at h;intro n hn;rcases List.mem_cons.1 hn with rfl | hn
  ·intro hm; rw [(nc7' us n).2 hm] at h; simp at h
  ·exact ih h.2 n hn
section
variable {P:Program} (ok:SigOK P G) (eqok:EqOK P G) {cf:CallF G} (cfok:CfOK P G cf) {cx:Cx}
omit eqok ok in
theorem nrd' (ops:Array Oper) (tm:List (Nat×Sv G.T)) (o:Oper):Law (npx' ops tm o):=by
 unfold npx';split
 ·exact nf' _
 ·intro R k
  unfold nxe';split
  ·split
   ·rename_i b _; cases b <;> rfl
   ·rfl
   ·rfl
  ·rfl
include cfok in
theorem n2z' (ops:Array Oper) (o:Oper) (st:St G):Law (stepO cf cx.nt ops o st):=by
 refine nb' (nj' _) fun _=>nb' (nrd' _ _ _) fun g=>?_
 split
 ·exact nb' (nvn' cfok.law _) fun _=>nb' (nj' _) fun _=>nf' _
 ·exact nf' _
include cfok in
theorem ns9' (ops:Array Oper):∀ (l:List Oper) (st:St G),Law (nsi' cf cx.nt ops l st)
 | [],_=>nf' _
 | o :: t,st=>nb' (n2z' cfok ops o st) fun st=>ns9' ops t st
inductive StepTo (cf:CallF G) (nt:Nat) (ops:Array Oper) (o:Oper) (st st':St G):Prop
 | act (g:Option (Nat×Bool)) (out:Out G) (hd:dstOk nt o.dst=true)
   (hg:∀ p,g=some p→get st.tm p.1=some (.p (.one (.sc (.bool p.2))))∧∃ j want,o.guard=some (j,want)∧(ops[j]?).bind (·.dst)=some p.1∧p.2=want)
   (hn:g=none→o.guard=none) (hact:act cf (evalO st.tm) (get st.hp) (dstOf 0 o.dst) o.op (Out G) some=some out) (hf:fresh st.us out.nw=true) (e:st'=(st.note g).next o.dst out)
 | skip (p:Nat×Bool) (j:Nat) (want:Bool) (hd:dstOk nt o.dst=true) (hp:get st.tm p.1=some (.p (.one (.sc (.bool p.2))))) (hg:o.guard=some (j,want)) (hj:(ops[j]?).bind (·.dst)=some p.1) (hw:p.2 ≠ want)
   (e:st'=(st.note (some p)).drop o.dst)
 | skipU (gs j:Nat) (want:Bool) (hd:dstOk nt o.dst=true) (hp:get st.tm gs=some (.tup [])) (hg:o.guard=some (j,want)) (hj:(ops[j]?).bind (·.dst)=some gs)
   (e:st'=st.drop o.dst)
include cfok in
theorem nbe0' {nt:Nat} {ops:Array Oper} {o:Oper} {st st':St G} (h:stepO cf nt ops o st (St G) some=some st'):StepTo cf nt ops o st st':=by
 unfold stepO at h;obtain ⟨hd,h1⟩:=M.bindneed h;obtain ⟨⟨go,g⟩,hgo,h2⟩:=(nrd' ops st.tm o).spec (M.bind_spec h1)
 have hcar:∀ (hg:∀ p,g=some p→get st.tm p.1=some (.p (.one (.sc (.bool p.2))))∧∃ j want,o.guard=some (j,want)∧(ops[j]?).bind (·.dst)=some p.1∧p.2=want) (hn:g=none→o.guard=none),go=true→StepTo cf nt ops o st st':=by
  intro hg hn hgo;subst hgo;simp only at h2;obtain ⟨out,hout,h3⟩:=(nvn' cfok.law _).spec (M.bind_spec h2);obtain ⟨hf,h4⟩:=M.bindneed h3;simp [M.ret] at h4;exact .act g out hd hg hn hout hf h4.symm
 unfold npx' at hgo;cases hog:o.guard with
 | none=>
  simp [hog,M.ret] at hgo;obtain ⟨rfl,rfl⟩:=hgo;exact hcar (by simp) (fun _=>hog) rfl
 | some jw=>
  obtain ⟨j,want⟩:=jw;simp only [hog,nxe'] at hgo;split at hgo
  ·rename_i gs hgs
   split at hgo
   ·rename_i b hb
    have hsk:∀ bb:Bool,get st.tm gs=some (.p (.one (.sc (.bool bb))))→bb ≠ want→go=false→g=some (gs,bb)→StepTo cf nt ops o st st':=by
     intro bb h5 h6 h7 h8;subst h7;simp [M.ret] at h2;exact .skip (gs,bb) j want hd h5 hog hgs h6 (by rw [← h8]; exact h2.symm)
    cases b with
    | true=>
     simp at hgo;obtain ⟨rfl,rfl⟩:=hgo;cases want with
     | true=>exact hcar (by rintro p hp; simp at hp; subst hp; exact ⟨hb,j,true,hog,hgs,rfl⟩) (by simp) rfl
     | false=>exact hsk true hb (by simp) rfl rfl
    | false=>
     simp at hgo;obtain ⟨rfl,rfl⟩:=hgo;cases go with
     | false=>exact hsk false hb (by simp) rfl rfl
     | true=>exact hcar (by rintro p hp; simp at hp; subst hp; exact ⟨hb,j,_,hog,hgs,rfl⟩) (by simp) rfl
   ·rename_i hu
    simp at hgo;obtain ⟨rfl,rfl⟩:=hgo;simp [M.ret] at h2;exact .skipU gs j want hd hu hog hgs h2.symm
   ·simp at hgo
  ·simp at hgo
theorem n4o' {cx:Cx} {ν:Nat→Option Value} {S:Nat→Prop} {st:St G} {a:Act} {w:World} (r:RelI G cx ν S st a w) {ops:Array Oper} {o:Oper} {j:Nat} {want:Bool} {gs:Nat} (hg:o.guard=some (j,want))
  (hj:(ops[j]?).bind (·.dst)=some gs) (hu:get st.tm gs=some (.tup [])):Region.wanted o (yielded ops a.tmps)=false:=by
 have h:=r.slot gs _ hu
 have h2:a.tmps[gs]?=none∨a.tmps[gs]?=some (.tuple #[]):=by
  cases hq:a.tmps[gs]? with
  | none=>exact .inl rfl
  | some v=>
   right;rw [Array.getD_eq_getD_getElem?,hq] at h;simp at h;cases h with
   | tup xs vs hc=>
    have:=hc.inv_nil; subst this; rfl
 have h3:yielded ops a.tmps j=none:=by
  unfold yielded;rw [hj];rcases h2 with h2 | h2 <;> simp [h2]
 simp [Region.wanted,hg,h3]
theorem n02' {cx:Cx} {ν:Nat→Option Value} {S:Nat→Prop} {st:St G} {a:Act} {w:World} (r:RelI G cx ν S st a w) {ops:Array Oper} {o:Oper} {j:Nat} {want b:Bool} {gs:Nat} (hg:o.guard=some (j,want))
  (hj:(ops[j]?).bind (·.dst)=some gs) (hb:get st.tm gs=some (.p (.one (.sc (.bool b))))):Region.wanted o (yielded ops a.tmps)=(b==want):=by
 have h:=n1j' r hb
 have h2:a.tmps[gs]?=some (.bool b):=by
  rw [Array.getD_eq_getD_getElem?] at h;cases hq:a.tmps[gs]? with
  | none=>rw [hq] at h; simp [undef] at h
  | some v=>rw [hq] at h; simp at h; rw [h]
 have h3:yielded ops a.tmps j=some b:=by
  unfold yielded;rw [hj]; simp [h2]
 simp only [Region.wanted,hg,h3];cases b <;> cases want <;> rfl
include ok eqok cfok in
theorem nvm' {ops:Array Oper} {o:Oper} {st st':St G} {a:Act} {w:World} (h:StepTo cf cx.nt ops o st st') (r:Rel G cx st a w) {K:Act→World→Prop} {Q:Exit→Act→World→Prop}
  (hK:∀ a' w',Rel G cx st' a' w'→K a' w'):if Region.wanted o (yielded ops a.tmps) then o.wp P a w K Q else K (a.put o.dst undef) w:=by
 obtain ⟨ν,S,r⟩:=r;cases h with
 | act g out hd hg hn hact hf e=>
  have hw:Region.wanted o (yielded ops a.tmps)=true:=by
   cases g with
   | none=>simp [Region.wanted,hn rfl]
   | some p=>
    obtain ⟨h1,j,want,h2,h3,h4⟩:=hg p rfl;rw [n02' r h2 h3 h1,h4]; simp
  rw [if_pos hw]
  have hfr:∀ n ∈ out.nw,ν n=none:=by
   intro n hn;cases hv:ν n with
   | none=>rfl
   | some x=>exact absurd (r.used n (by simp [hv])) (num' hf n hn)
  refine nbgs' ok eqok cfok (fun x s=>n5a' r.heap.gl r.slot x s) r.heap (fun b hb=>.inr (Nat.le_trans r.size hb)) hfr hact fun ν' S' w' v hp=>hK _ _ ?_
  subst e
  have r':RelI G cx ν S (st.note g) a w:=by
   cases g with
   | none=>exact r
   | some p=>exact r.note (hg p rfl).1
  have hhp:(st.note g).hp=st.hp:=by cases g <;> rfl
  exact ⟨ν',S',r'.next hd (by rw [hhp]; exact hp)⟩
 | skip p j want hd hp hg hj hw e=>
  have hwf:Region.wanted o (yielded ops a.tmps)=false:=by
   rw [n02' r hg hj hp];cases hb:p.2 <;> cases hw':want <;> simp_all
  rw [if_neg (by simp [hwf])]
  subst e;exact hK _ _ ⟨ν,S,(r.note hp).drop hd⟩
 | skipU gs j want hd hp hg hj e=>
  have hwf:=n4o' r hg hj hp;rw [if_neg (by simp [hwf])]
  subst e;exact hK _ _ ⟨ν,S,r.drop hd⟩
include ok eqok cfok in
theorem nux' {ops:Array Oper} {Q:Exit→Act→World→Prop}:∀ (l:List Oper) (st st':St G) (a:Act) (w:World),nsi' cf cx.nt ops l st (St G) some=some st'→Rel G cx st a w →
  (∀ a' w',Rel G cx st' a' w'→Q .normal a' w')→wpList P ops Q l a w
 | [],st,st',a,w,h,r,hQ=>by
  simp [nsi',M.ret] at h; subst h;exact hQ a w r
 | o :: t,st,st',a,w,h,r,hQ=>by
  unfold nsi' at h;obtain ⟨st1,h1,h2⟩:=(n2z' cfok ops o st).spec (M.bind_spec h);have hs:=nvm' ok eqok cfok (nbe0' cfok h1) r (K:=wpList P ops Q t) (Q:=Q) fun a' w' r'=>nux' t st1 st' a' w' h2 r' hQ
  unfold wpList;by_cases hw:Region.wanted o (yielded ops a.tmps)=true
  ·rw [if_pos hw] at hs ⊢; exact .inl hs
  ·rw [if_neg hw] at hs ⊢; exact hs
end
end Go.Ab
namespace Go.Ab
variable {G:Sig}
theorem nx6' {h:Nat→Option (Blk G.T)} {n t:Nat} {l:List (G.T t)} (hr:rowAt h n t=some l):h n=some (.row t l):=by
 unfold rowAt at hr;split at hr
 ·rename_i t' l' hn
  obtain ⟨rfl,rfl⟩:=ns0' hr;exact hn
 ·simp at hr
theorem n76' {t t':Nat} {x:G.T t} {x':G.T t'} (h:castT G t t' x=some x'):∃ e:t=t',e ▸ x=x':=by
 unfold castT at h;split at h
 ·rename_i e; simp at h; exact ⟨e,h⟩
 ·simp at h
theorem nz4':∀ {a b:List (Nat×Nat)},eqNN a b=true→a=b
 | [],[],_=>rfl
 | [],_ :: _,h=>by simp [eqNN] at h
 | _ :: _,[],h=>by simp [eqNN] at h
 | (x,y) :: s,(u,v) :: t,h=>by
  simp only [eqNN,Bool.and_eq_true] at h;rw [nz4' h.2];have h1:x=u:=nw'.1 h.1.1;have h2:y=v:=nw'.1 h.1.2;rw [h1,h2]
theorem nv2' {l:List Nat}:∀ {m:List Nat},nr3' l m=true→∀ n ∈ m,n ∈ l
 | [],_,_,h=>by simp at h
 | k :: t,h,n,hn=>by
  simp only [nr3',Bool.and_eq_true] at h;rcases List.mem_cons.1 hn with rfl | hn
  ·exact (nc7' l n).1 h.1
  ·exact nv2' h.2 n hn
theorem n1m':∀ {p:List (Nat×Nat)} {q:Nat×Nat},q ∈ p→q.1 ∈ fstsP p
 | x :: t,q,h=>by
  rcases List.mem_cons.1 h with rfl | h
  ·simp [fstsP]
  ·simp [fstsP,n1m' h]
structure Ren (ν ν':Nat→Option Value) (S S':Nat→Prop) (h:Nat→Option (Blk G.T)) (H:List Nat) (nm:List (Nat×Option Nat)) (fz:List Nat):Prop where
 own:∀ p ∈ nm,ν' p.1=match p.2 with | some n=>ν n | none=>some (.slice none 0 0)
 keep:∀ n ∈ H,ν' n=ν n
 frz:∀ n ∈ fz,h n ≠ none→∀ x b,ν n=some x→blkOf x=some b→S' b
 sub:∀ b,S b→S' b
section
variable {ν ν':Nat→Option Value} {S S' B:Nat→Prop} {h:Nat→Option (Blk G.T)} {H:List Nat} {w:World}
theorem Ren.left {a b:List (Nat×Option Nat)} {c d:List Nat} (r:Ren ν ν' S S' h H (a++b) (c++d)):Ren ν ν' S S' h H a c:=
 ⟨fun p hp=>r.own p (by simp [hp]),r.keep,fun n hn=>r.frz n (by simp [hn]),r.sub⟩
theorem Ren.right {a b:List (Nat×Option Nat)} {c d:List Nat} (r:Ren ν ν' S S' h H (a++b) (c++d)):Ren ν ν' S S' h H b d:=
 ⟨fun p hp=>r.own p (by simp [hp]),r.keep,fun n hn=>r.frz n (by simp [hn]),r.sub⟩
theorem Ren.rptr {nm:List (Nat×Option Nat)} {fz:List Nat} (r:Ren ν ν' S S' h H nm fz) {p:Nat×Nat} (hp:p.1 ∈ H) {v:Value} (hv:RPtr ν p v):RPtr ν' p v:=by
 obtain ⟨b,h1,h2⟩:=hv;exact ⟨b,by rw [r.keep _ hp]; exact h1,h2⟩
theorem Ren.rptrs {nm:List (Nat×Option Nat)} {fz:List Nat} (r:Ren ν ν' S S' h H nm fz) {p:List (Nat×Nat)} (hp:nr3' H (fstsP p)=true) {vs:List Value} (hv:F2 (RPtr ν) p vs):F2 (RPtr ν') p vs:=
 ⟨hv.1,fun i x y hx hy=>r.rptr (nv2' hp _ (n1m' (List.mem_of_getElem? hx))) (hv.2 i x y hx hy)⟩
def RowsOK (G:Sig) (ν':Nat→Option Value) (S':Nat→Prop) (w:World) (h:Nat→Option (Blk G.T)) (nm:List (Nat×Option Nat)) (bl:List (Nat×Blk G.T)):Prop:=
 (∀ p ∈ bl,Rb G ν' S' w.heap p.1 p.2)∧keysB bl=keysN nm∧∀ p ∈ nm,∀ n,p.2=some n→h n ≠ none
theorem ndp' (a b:List (Nat×Blk G.T)):keysB (a++b)=keysB a++keysB b:=by induction a with | nil=>rfl | cons x t ih=>simp [keysB,ih]
theorem np9' (a b:List (Nat×Option Nat)):keysN (a++b)=keysN a++keysN b:=by induction a with | nil=>rfl | cons x t ih=>simp [keysN,ih]
theorem RowsOK.append {nm nm':List (Nat×Option Nat)} {bl bl':List (Nat×Blk G.T)} (r:RowsOK G ν' S' w h nm bl) (r':RowsOK G ν' S' w h nm' bl'):RowsOK G ν' S' w h (nm++nm') (bl++bl'):=
 ⟨fun p hp=>(List.mem_append.1 hp).elim (r.1 p) (r'.1 p),by rw [ndp',np9',r.2.1,r'.2.1],fun p hp=>(List.mem_append.1 hp).elim (r.2.2 p) (r'.2.2 p)⟩
theorem RowsOK.nil:RowsOK G ν' S' w h [] []:=⟨by simp,rfl,by simp⟩
theorem CSh.take_sound (hr:HRel G ν S B h w) {s:CSh} {c:Cv G.T} {t:Tk (s.T G)} (ht:s.take h c=some t) (hf:s.fix H=true) (rn:Ren ν ν' S S' h H t.nm t.fz) {v:Value} (hc:Rc G ν S w.heap c v) :
  Rc G ν' S' w.heap (s.give t.x) v∧RowsOK G ν' S' w h t.nm (s.blk t.x):=by
 have rd:∀ {c:Cv G.T} {v:Value},Rd G S w.heap c v→Rd G S' w.heap c v:=fun r=>r.mono rn.sub fun _ _=>rfl
 cases s with
 | int k=>
  cases c with
  | sc u=>
   cases u with
   | int k' n=>
    simp only [CSh.take] at ht;cases hk:eqIK k k' with
    | false=>rw [hk] at ht; simp at ht
    | true=>
     rw [hk] at ht; simp [tk0] at ht; subst ht;rw [ndt' hk];exact ⟨rd hc,.nil⟩
   | _=>simp [CSh.take] at ht
  | _=>simp [CSh.take] at ht
 | bool=>
  cases c with
  | sc u=>cases u <;> simp [CSh.take,tk0] at ht; subst ht; exact ⟨rd hc,.nil⟩
  | _=>simp [CSh.take] at ht
 | str=>
  cases c with
  | sc u=>cases u <;> simp [CSh.take,tk0] at ht; subst ht; exact ⟨rd hc,.nil⟩
  | _=>simp [CSh.take] at ht
 | flt k=>
  cases c with
  | sc u=>
   cases u with
   | float k' n=>
    simp only [CSh.take] at ht;cases hk:eqFK k k' with
    | false=>rw [hk] at ht; simp at ht
    | true=>
     rw [hk] at ht; simp [tk0] at ht; subst ht;rw [nzn' hk];exact ⟨rd hc,.nil⟩
   | _=>simp [CSh.take] at ht
  | _=>simp [CSh.take] at ht
 | own m t'=>
  cases c with
  | own n=>
   simp only [CSh.take] at ht;split at ht
   ·rename_i l hl
    simp at ht; subst ht;have hn:=nx6' hl;have ho:=rn.own (m,some n) (by simp)
    simp only at ho;obtain ⟨av,len,cap,h1,h2⟩:=hc;refine ⟨⟨av,len,cap,ho.trans h1,h2⟩,fun p hp=>?_,rfl,fun p hp n' hp'=>?_⟩
    ·simp [CSh.blk] at hp; subst hp
     rcases hr.blk n _ hn with ⟨g1,g2⟩ | ⟨b,cap',cs,te,g1,g2,g3,g4,g5,g6⟩
     ·exact .inl ⟨ho.trans g1,g2⟩
     ·refine .inr ⟨b,cap',cs,te,ho.trans g1,g2,g3,g4,fun i j x cv hx hcv=>?_,g6⟩
      obtain ⟨u,hu,hrd⟩:=g5 i j x cv hx hcv;exact ⟨u,hu,rd hrd⟩
    ·simp at hp; subst hp; simp at hp'; subst hp'; rw [hn]; simp
   ·simp at ht
  | sc u=>
   simp only [CSh.take] at ht;cases hk:nn5' u with
   | false=>rw [hk] at ht; simp at ht
   | true=>
    rw [hk] at ht; simp at ht; subst ht;have hu:=nu9' hk; subst hu;have ho:=rn.own (m,none) (by simp)
    simp only at ho;have hv:v=.slice none 0 0:=by have hc:Rd G S w.heap (.sc (.slice none 0 0)) v:=hc; cases hc; rfl
    subst hv;refine ⟨⟨none,0,0,ho,rfl⟩,fun p hp=>?_,rfl,fun p hp n' hp'=>?_⟩
    ·simp [CSh.blk] at hp; subst hp
     exact .inl ⟨ho,rfl⟩
    ·simp at hp; subst hp; simp at hp'
  | _=>simp [CSh.take] at ht
 | ro t'=>
  cases c with
  | ro t'' l=>
   simp only [CSh.take] at ht;split at ht
   ·rename_i l' hl
    obtain ⟨rfl,rfl⟩:=ns0' hl;simp [tk0] at ht; subst ht;exact ⟨rd hc,.nil⟩
   ·simp at ht
  | own n=>
   simp only [CSh.take] at ht;split at ht
   ·rename_i l hl
    simp at ht; subst ht;have hn:=nx6' hl;refine ⟨?_,.nil⟩;obtain ⟨av,len,cap,hν,rfl⟩:=hc;rcases hr.blk n _ hn with ⟨h1,h2⟩ | ⟨b,cap',c,te,h1,h2,h3,h4,h5⟩
    ·rw [hν] at h1; simp at h1; obtain ⟨rfl,rfl,rfl⟩:=h1
     simp only [CSh.give]; rw [h2];exact .nil _ _ _
    ·rw [hν] at h1; simp at h1; obtain ⟨rfl,rfl,rfl⟩:=h1
     have hSb:S' b:=rn.frz n (by simp) (by rw [hn]; simp) _ b hν rfl
     show Rd G S' w.heap (.ro t' l) _;refine .ro t' l b 0 cap c te (0,0) (fun i j=>c.getD (i * G.sz t' + j) undef) hSb h2 h3 (fun i j hi hj=>?_) (fun i j x cv hx hcv=>?_)
     ·have hm:(i + 1) * G.sz t'≤cap * G.sz t':=Nat.mul_le_mul_right _ (by omega)
      rw [Nat.add_mul] at hm;have hlt:i * G.sz t' + j < c.size:=by omega
      rw [Nat.zero_add]; simp [hlt]
     ·obtain ⟨v,hv,hrd⟩:=h5.1 i j x cv hx hcv
      have:c.getD (i * G.sz t' + j) undef=v:=by rw [Array.getD_eq_getD_getElem?,hv]; rfl
      rw [this];exact rd hrd
   ·simp at ht
  | sc u=>
   simp only [CSh.take] at ht;cases hk:nn5' u with
   | false=>rw [hk] at ht; simp at ht
   | true=>
    rw [hk] at ht; simp [tk0] at ht; subst ht;have hu:=nu9' hk; subst hu;have hv:v=.slice none 0 0:=by have hc:Rd G S w.heap (.sc (.slice none 0 0)) v:=hc; cases hc; rfl
    subst hv;exact ⟨Rd.nil _ _ _,.nil⟩
  | _=>simp [CSh.take] at ht
 | rp t' off=>
  cases c with
  | rp t'' x off'=>
   simp only [CSh.take] at ht;cases hk:Nat.beq off off' with
   | false=>rw [hk] at ht; simp at ht
   | true=>
    rw [hk,cond_true] at ht;have e:=nw'.1 hk; subst e;split at ht
    ·rename_i x' hx
     obtain ⟨rfl,rfl⟩:=n76' hx;simp [tk0] at ht; subst ht;exact ⟨rd hc,.nil⟩
    ·simp at ht
  | _=>simp [CSh.take] at ht
 | ptr n off=>
  cases c with
  | ptr n' off'=>
   simp only [CSh.take] at ht;cases hk:(Nat.beq n n'&&Nat.beq off off') with
   | false=>rw [hk] at ht; simp at ht
   | true=>
    rw [hk,cond_true] at ht;simp only [Bool.and_eq_true] at hk;have e1:n=n':=nw'.1 hk.1;have e2:off=off':=nw'.1 hk.2;subst e1; subst e2;simp [tk0] at ht; subst ht;exact ⟨rn.rptr ((nc7' H n).1 hf) hc,.nil⟩
  | _=>simp [CSh.take] at ht
 | nili=>
  cases c with
  | sc v'=>
   simp only [CSh.take] at ht;cases hk:n31' v' with
   | false=>rw [hk] at ht; simp at ht
   | true=>
    rw [hk,cond_true] at ht;simp [tk0] at ht; subst ht;have hc':Rd G _ _ (.sc v') _:=hc;cases hc';refine ⟨?_,.nil⟩;unfold n31' at hk;split at hk
    ·exact Rd.sc _ rfl
    ·simp at hk
  | _=>simp [CSh.take] at ht
 | np n tt=>
  cases c with
  | np n' t'=>
   simp only [CSh.take] at ht;cases hk:(Nat.beq n n'&&Nat.beq tt t') with
   | false=>rw [hk] at ht; simp at ht
   | true=>
    rw [hk,cond_true] at ht;simp only [Bool.and_eq_true] at hk;have e1:n=n':=nw'.1 hk.1;have e2:tt=t':=nw'.1 hk.2;subst e1; subst e2;simp [tk0] at ht; subst ht;exact ⟨hc.imp (fun h=>h) (rn.rptr ((nc7' H n).1 hf)),.nil⟩
  | _=>simp [CSh.take] at ht
 | sa n off len=>
  cases c with
  | sa n' off' len'=>
   simp only [CSh.take] at ht;cases hk:(Nat.beq n n'&&(Nat.beq off off'&&Nat.beq len len')) with
   | false=>rw [hk] at ht; simp at ht
   | true=>
    rw [hk,cond_true] at ht;simp only [Bool.and_eq_true] at hk;have e1:n=n':=nw'.1 hk.1;have e2:off=off':=nw'.1 hk.2.1;have e3:len=len':=nw'.1 hk.2.2;subst e1; subst e2; subst e3;simp [tk0] at ht; subst ht;obtain ⟨b,h1,h2⟩:=hc;obtain ⟨b',g1,g2⟩:=rn.rptr ((nc7' H n).1 hf) (p:=(n,0)) ⟨b,h1,rfl⟩;cases g2;exact ⟨⟨b,g1,h2⟩,.nil⟩
  | _=>simp [CSh.take] at ht
 | clo f p q=>
  cases c with
  | clo f' p' q'=>
   simp only [CSh.take] at ht;cases hk:(Nat.beq f f'&&eqNN p p'&&eqNN q q') with
   | false=>rw [hk] at ht; simp at ht
   | true=>
    rw [hk,cond_true] at ht;simp only [Bool.and_eq_true] at hk;have e1:f=f':=nw'.1 hk.1.1;have e2:=nz4' hk.1.2;have e3:=nz4' hk.2;subst e1; subst e2; subst e3;simp [tk0] at ht; subst ht;simp only [CSh.fix,Bool.and_eq_true] at hf;obtain ⟨vp,vq,h1,h2,h3⟩:=hc;exact ⟨⟨vp,vq,h1,rn.rptrs hf.1 h2,rn.rptrs hf.2 h3⟩,.nil⟩
  | _=>simp [CSh.take] at ht
theorem nrm' (hr:HRel G ν S B h w):∀ (s:List CSh) (cs:List (Cv G.T)) (t:Tk (TL G s)),takeL h s cs=some t→s.all (CSh.fix H)=true→Ren ν ν' S S' h H t.nm t.fz→∀ vs:List Value,F2 (Rc G ν S w.heap) cs vs →
  F2 (Rc G ν' S' w.heap) (giveL s t.x) vs∧RowsOK G ν' S' w h t.nm (blkL s t.x)
 | [],[],t,ht,_,_,vs,hc=>by
  simp [takeL,tk0] at ht; subst ht;exact ⟨by rw [hc.inv_nil]; exact .nil,.nil⟩
 | [],_ :: _,_,ht,_,_,_,_=>by simp [takeL] at ht
 | _ :: _,[],_,ht,_,_,_,_=>by simp [takeL] at ht
 | s :: ss,c :: cs,t,ht,hf,rn,vs,hc=>by
  simp only [takeL] at ht;split at ht
  ·rename_i a b ha hb
   simp at ht; subst ht;simp only [List.all_cons,Bool.and_eq_true] at hf;obtain ⟨v,vs',rfl,hv,hvs⟩:=hc.inv;have h1:=CSh.take_sound hr ha hf.1 rn.left hv;have h2:=nrm' hr ss cs b hb hf.2 rn.right vs' hvs;exact ⟨h2.1.cons h1.1,h1.2.append h2.2⟩
  ·simp at ht
theorem PSh.take_sound (hr:HRel G ν S B h w) {s:PSh} {c:Pv G.T} {t:Tk (s.T G)} (ht:s.take h c=some t) (hf:s.fix H=true) (rn:Ren ν ν' S S' h H t.nm t.fz) {v:Value} (hc:Rp G ν S w.heap c v) :
  Rp G ν' S' w.heap (s.give t.x) v∧RowsOK G ν' S' w h t.nm (s.blk t.x):=by
 cases s with
 | one s=>
  cases hc with
  | one c v hc=>
   obtain ⟨x,nm,fz⟩:=t;have h1:=CSh.take_sound (ν':=ν') (S':=S') (H:=H) hr (s:=s) (t:=⟨x,nm,fz⟩) ht hf rn hc;exact ⟨Rp.one (s.give x) v h1.1,h1.2⟩
  | agg cs vs hc=>exact absurd (show (none:Option (Tk (s.T G)))=some t from ht) (by simp)
 | agg ss=>
  cases hc with
  | one c v hc=>exact absurd (show (none:Option (Tk (TL G ss)))=some t from ht) (by simp)
  | agg cs vs hc=>
   obtain ⟨x,nm,fz⟩:=t;have h1:=nrm' (ν':=ν') (S':=S') (H:=H) hr ss cs ⟨x,nm,fz⟩ ht hf rn vs hc;exact ⟨Rp.agg (giveL ss x) vs h1.1,h1.2⟩
theorem nqv' (hr:HRel G ν S B h w) {tm:List (Nat×Sv G.T)} {f:Nat→Value} (hs:∀ k s,get tm k=some s→Rs G ν S w.heap s (f k)):∀ (s:List (Nat×PSh)) (t:Tk (TmT G s)),nf4' h tm s=some t→s.all (fun p=>p.2.fix H)=true →
  Ren ν ν' S S' h H t.nm t.fz→(∀ k v,get (nod' s t.x) k=some v→Rs G ν' S' w.heap v (f k))∧RowsOK G ν' S' w h t.nm (blkTm s t.x)
 | [],t,ht,_,_=>by
  simp [nf4',tk0] at ht; subst ht;exact ⟨fun k v h=>by simp [nod',get] at h,.nil⟩
 | p :: ss,t,ht,hf,rn=>by
  simp only [nf4'] at ht;split at ht
  ·rename_i c hc
   split at ht
   ·rename_i a b ha hb
    simp at ht; subst ht;simp only [List.all_cons,Bool.and_eq_true] at hf;have hrs:=hs p.1 _ hc;generalize hfk:f p.1=v0 at hrs;cases hrs with
    | p _ _ hrp=>
    obtain ⟨g1,g2⟩:=PSh.take_sound hr ha hf.1 rn.left hrp;obtain ⟨g3,g4⟩:=nqv' hr hs ss b hb hf.2 rn.right;refine ⟨fun k v hk=>?_,g2.append g4⟩
    simp only [nod',get,nbn'] at hk;by_cases e:p.1=k
    ·rw [if_pos e] at hk; simp at hk; subst hk; rw [← e,hfk]; exact .p _ _ g1
    ·rw [if_neg e] at hk; exact g3 k v hk
   ·simp at ht
  ·simp at ht
theorem nbda' {h:Nat→Option (Blk G.T)} {s:CSh} {c:Cv G.T} {a:Tk (s.T G)} (ht:s.take h c=some a) {m t:Nat} (hm:s.give a.x=.np m t):c=.np m t:=by
 cases s with
 | np n tt=>
  have e:(CSh.np n tt).give a.x=(.np n tt:Cv G.T):=rfl;rw [e] at hm;cases hm;cases c with
  | np n' t'=>
   simp only [CSh.take] at ht;cases hk:(Nat.beq m n'&&Nat.beq t t') with
   | false=>rw [hk] at ht; simp at ht
   | true=>
    simp only [Bool.and_eq_true] at hk;rw [← nw'.1 hk.1,← nw'.1 hk.2]
  | _=>simp [CSh.take] at ht
 | _=>cases hm
theorem n33' (h:Nat→Option (Blk G.T)):∀ (s:List CSh) (cs:List (Cv G.T)) (a:Tk (TL G s)),takeL h s cs=some a→∀ {m t:Nat},Cv.np m t ∈ giveL s a.x→Cv.np m t ∈ cs
 | [],[],a,_,m,t,hm=>by simp [giveL] at hm
 | [],_ :: _,a,ht,_,_,_=>by simp [takeL] at ht
 | _ :: _,[],a,ht,_,_,_=>by simp [takeL] at ht
 | s :: ss,c :: cs,a,ht,m,t,hm=>by
  simp only [takeL] at ht;split at ht
  ·rename_i x y hx hy
   cases ht;simp only [giveL,List.mem_cons] at hm;rcases hm with hm | hm
   ·rw [nbda' hx hm.symm]; simp
   ·exact List.mem_cons_of_mem _ (n33' h ss cs y hy hm)
  ·simp at ht
theorem nqq' (hr:HRel G ν S B h w):∀ (s:List (Nat×List CSh)) (t:Tk (HpT G s)),nge' h s=some t→(∀ n ∈ keysH s,n ∈ H)→s.all (fun p=>p.2.all (CSh.fix H))=true →
  Ren ν ν' S S' h H t.nm t.fz→(∀ p ∈ nfk' s t.x,Rb G ν' S' w.heap p.1 p.2)∧keysB (nfk' s t.x)=keysH s∧(∀ n ∈ keysH s,∃ cs,h n=some (.cells cs))∧RowsOK G ν' S' w h t.nm (blkHp s t.x)
 | [],t,ht,_,_,_=>by
  simp [nge',tk0] at ht; subst ht;exact ⟨by simp [nfk'],rfl,by simp [keysH],.nil⟩
 | p :: ss,t,ht,hk,hf,rn=>by
  simp only [nge'] at ht;split at ht
  ·rename_i cs hc
   split at ht
   ·rename_i a b ha hb
    simp at ht; subst ht;simp only [List.all_cons,Bool.and_eq_true] at hf;obtain ⟨bb,c,te,q1,q2,q3,q4⟩:=hr.blk p.1 _ hc;obtain ⟨g1,g2⟩:=nrm' hr p.2 cs a ha hf.1 rn.left c.toList q3;obtain ⟨g3,g5,g6,g4⟩:=nqq' hr ss b hb (fun n hn=>hk n (by simp [keysH,hn])) hf.2 rn.right
    refine ⟨fun q hq=>?_,by simp only [nfk',keysB,keysH,g5],fun n hn=>?_,g2.append g4⟩
    ·simp only [nfk',List.mem_cons] at hq
     rcases hq with rfl | hq
     ·exact ⟨bb,c,te,by rw [rn.keep _ (hk _ (by simp [keysH]))]; exact q1,q2,g1,fun m t hm=>q4 m t (n33' h p.2 cs a ha hm)⟩
     ·exact g3 q hq
    ·simp only [keysH,List.mem_cons] at hn
     rcases hn with rfl | hn
     ·exact ⟨cs,hc⟩
     ·exact g6 n hn
   ·simp at ht
  ·simp at ht
end
end Go.Ab
namespace Go.Ab
variable {G:Sig}
theorem nh2':∀ {l:List Nat},nhj' l=true→l.Nodup
 | [],_=>by simp
 | n :: t,h=>by
  simp only [nhj',Bool.and_eq_true,Bool.not_eq_true'] at h;refine List.nodup_cons.2 ⟨fun hm=>?_,nh2' h.2⟩
  rw [(nc7' t n).2 hm] at h; simp at h
theorem nsz':∀ {a b:List Nat},disjN a b=true→∀ n ∈ a,n ∉ b
 | [],_,_,n,h=>by simp at h
 | m :: t,b,h,n,hn=>by
  simp only [disjN,Bool.and_eq_true,Bool.not_eq_true'] at h;rcases List.mem_cons.1 hn with rfl | hn
  ·intro hm; rw [(nc7' b n).2 hm] at h; simp at h
  ·exact nsz' h.2 n hn
theorem nte':∀ {a:List Nat},allLt a=true→∀ n ∈ a,n < lo
 | [],_,n,h=>by simp at h
 | m :: t,h,n,hn=>by
  simp only [allLt,Bool.and_eq_true] at h;rcases List.mem_cons.1 hn with rfl | hn
  ·have:=h.1; simp [Nat.blt] at this; omega
  ·exact nte' h.2 n hn
theorem nxw' {us:List Nat}:∀ {a:List Nat},allIn us a=true→∀ n ∈ a,lo≤n→n ∈ us
 | [],_,n,h,_=>by simp at h
 | m :: t,h,n,hn,hl=>by
  simp only [allIn,Bool.and_eq_true,Bool.or_eq_true] at h;rcases List.mem_cons.1 hn with rfl | hn
  ·rcases h.1 with h1 | h1
   ·simp [Nat.blt] at h1; omega
   ·exact (nc7' us n).1 h1
  ·exact nxw' h.2 n hn hl
theorem nn6' {ρ:List (Nat×Option Nat)} {p:Nat×Option Nat} (h:p ∈ ρ):p.1 ∈ keysN ρ:=by
 induction ρ with
 | nil=>simp at h
 | cons q t ih=>
  rcases List.mem_cons.1 h with rfl | h
  ·simp [keysN]
  ·simp [keysN,ih h]
theorem nfh' {ρ:List (Nat×Option Nat)} {m n:Nat} (h:(m,some n) ∈ ρ):n ∈ oldsN ρ:=by
 induction ρ with
 | nil=>simp at h
 | cons q t ih=>
  obtain ⟨k,o⟩:=q;rcases List.mem_cons.1 h with h1 | h1
  ·simp at h1; obtain ⟨rfl,rfl⟩:=h1; simp [oldsN]
  ·have:=ih h1
   cases o <;> simp [oldsN,this]
theorem n1g' {ρ:List (Nat×Option Nat)} {n:Nat} (h:n ∈ keysN ρ):∃ o,(n,o) ∈ ρ:=by
 induction ρ with
 | nil=>simp [keysN] at h
 | cons q t ih=>
  simp only [keysN,List.mem_cons] at h;rcases h with rfl | h
  ·exact ⟨q.2,by simp⟩
  ·obtain ⟨o,ho⟩:=ih h
   exact ⟨o,by simp [ho]⟩
theorem nhq' {α:Type} {l:List (Nat×α)} {n:Nat} {x:α} (h:get l n=some x):(n,x) ∈ l:=by
 induction l with
 | nil=>simp [get] at h
 | cons q t ih=>
  obtain ⟨k,v⟩:=q;simp only [get,nbn'] at h;by_cases e:k=n
  ·subst e; simp at h; subst h; simp
  ·rw [if_neg e] at h; simp [ih h]
theorem n6p' {ρ:List (Nat×Option Nat)} (hn:(keysN ρ).Nodup) {n:Nat} {o:Option Nat} (h:(n,o) ∈ ρ):get ρ n=some o:=by
 induction ρ with
 | nil=>simp at h
 | cons q t ih=>
  obtain ⟨k,v⟩:=q;simp only [keysN,List.nodup_cons] at hn;simp only [get,nbn'];rcases List.mem_cons.1 h with h | h
  ·simp at h; obtain ⟨rfl,rfl⟩:=h; simp
  ·have:k ≠ n:=fun e=>hn.1 (by rw [e]; exact nn6' h)
   rw [if_neg this];exact ih hn.2 h
theorem n4s' {ρ:List (Nat×Option Nat)} (hn:(oldsN ρ).Nodup) {m m' n:Nat} (h:(m,some n) ∈ ρ) (h':(m',some n) ∈ ρ):m=m':=by
 induction ρ with
 | nil=>simp at h
 | cons q t ih=>
  obtain ⟨k,v⟩:=q
  have hn':(oldsN t).Nodup∧(∀ j,v=some j→j ∉ oldsN t):=by
   cases v with
   | none=>exact ⟨hn,by simp⟩
   | some j=>simp only [oldsN,List.nodup_cons] at hn; exact ⟨hn.2,fun i hi=>by simp at hi; subst hi; exact hn.1⟩
  rcases List.mem_cons.1 h with h1 | h1 <;> rcases List.mem_cons.1 h' with h2 | h2
  ·simp at h1 h2; rw [h1.1,h2.1]
  ·simp at h1; obtain ⟨rfl,rfl⟩:=h1; exact absurd (nfh' h2) (hn'.2 n rfl)
  ·simp at h2; obtain ⟨rfl,rfl⟩:=h2; exact absurd (nfh' h1) (hn'.2 n rfl)
  ·exact ih hn'.1 h1 h2
theorem nq7' {l:List (Nat×Blk G.T)} {p:Nat×Blk G.T} (h:p ∈ l):p.1 ∈ keysB l:=by
 induction l with
 | nil=>simp at h
 | cons q t ih=>
  rcases List.mem_cons.1 h with rfl | h
  ·simp [keysB]
  ·simp [keysB,ih h]
theorem Spec.take_rel {cx:Cx} {s:Spec} {st:St G} {x:s.T G} (ht:s.take st=some x) {a:Act} {w:World} (hrel:Rel G cx st a w) (hnu:∀ n y,cx.nu0 n=some y→lo≤n):Rel G cx (s.mk' x) a w:=by
 obtain ⟨ν,S,r⟩:=hrel;unfold Spec.take at ht;split at ht
 ·rename_i ta tb hta htb
  generalize hc:(s.tm.all (fun p=>p.2.fix (keysH s.hp))&&s.hp.all (fun p=>p.2.all (CSh.fix (keysH s.hp))) &&
   (nhj' (keysN (ta.nm++tb.nm)++keysH s.hp)&&allLt (keysN (ta.nm++tb.nm))&&nhj' (oldsN (ta.nm++tb.nm)++keysH s.hp)&&disjN (oldsN (ta.nm++tb.nm)++keysH s.hp) (ta.fz++tb.fz)&&allIn s.us st.us))=c at ht
  cases c with
  | false=>simp at ht
  | true=>
   have ht:(ta.x,tb.x)=x:=Option.some.inj ht;subst ht;simp only [Bool.and_eq_true] at hc;obtain ⟨⟨c1,c2⟩,⟨⟨⟨c3,c4⟩,c5⟩,c6⟩,c7⟩:=hc;generalize hρ:ta.nm++tb.nm=ρ at c3 c4 c5 c6;generalize hfz:ta.fz++tb.fz=fz at c6;have d3:=List.nodup_append.1 (nh2' c3);have d5:=List.nodup_append.1 (nh2' c5);have d4:=nte' c4;have d6:=nsz' c6;have d7:=nxw' c7
   let ν':Nat→Option Value:=fun n=>match get ρ n with
    | some (some m)=>ν m
    | some none=>some (.slice none 0 0)
    | none=>if n ∈ keysH s.hp∨lo≤n then ν n else none
   let S':Nat→Prop:=fun b=>S b∨∃ n ∈ fz,get st.hp n ≠ none∧∃ y,ν n=some y∧blkOf y=some b
   have hown:∀ p ∈ ρ,ν' p.1=match p.2 with | some n=>ν n | none=>some (.slice none 0 0):=by
    intro p hp;simp only [ν',n6p' d3.1 hp];cases p.2 <;> rfl
   have hno:∀ n,n ∉ keysN ρ→get ρ n=none:=by
    intro n hn;cases hg:get ρ n with
    | none=>rfl
    | some o=>exact absurd (nn6' (nhq' hg)) hn
   have hkeep:∀ n ∈ keysH s.hp,ν' n=ν n:=by
    intro n hn
    have:get ρ n=none:=hno n fun hm=>d3.2.2 n hm n hn rfl
    simp only [ν',this];rw [if_pos (.inl hn)]
   have rn:Ren ν ν' S S' (get st.hp) (keysH s.hp) ρ fz:=⟨hown,hkeep,fun n hn hh y b hy hb=>.inr ⟨n,hn,hh,y,hy,hb⟩,fun b hb=>.inl hb⟩
   rw [← hρ,← hfz] at rn;obtain ⟨g1,g2⟩:=nqv' r.heap r.slot s.tm ta hta c1 rn.left;obtain ⟨g3,g4,g5,g6⟩:=nqq' r.heap s.hp tb htb (fun _ h=>h) c2 rn.right
   have hkeys:keysB (blkTm s.tm ta.x++(blkHp s.hp tb.x++nfk' s.hp tb.x))=keysN ρ++keysH s.hp:=by
    rw [ndp',ndp',g2.2.1,g6.2.1,g4,← hρ,np9',List.append_assoc]
   have hsrc:∀ n y b,get (blkTm s.tm ta.x++(blkHp s.hp tb.x++nfk' s.hp tb.x)) n ≠ none→ν' n=some y→blkOf y=some b →
     ∃ m,ν m=some y∧get st.hp m ≠ none∧((n,some m) ∈ ρ∨(n ∈ keysH s.hp∧m=n)):=by
    intro n y b hn hy hb;obtain ⟨k,hk⟩:=Option.ne_none_iff_exists'.1 hn;have hm:=nq7' (nhq' hk);rw [hkeys] at hm;rcases List.mem_append.1 hm with hm | hm
    ·obtain ⟨o,ho⟩:=n1g' hm
     have h1:=hown _ ho;simp only at h1;cases o with
     | none=>rw [hy] at h1; simp at h1; subst h1; simp [blkOf] at hb
     | some m=>
      refine ⟨m,by rw [← hy,h1],?_,.inl ho⟩
      rw [← hρ] at ho;rcases List.mem_append.1 ho with ho | ho
      ·exact g2.2.2 _ ho m rfl
      ·exact g6.2.2 _ ho m rfl
    ·refine ⟨n,by rw [← hkeep n hm]; exact hy,?_,.inr ⟨hm,rfl⟩⟩
     obtain ⟨cs,hcs⟩:=g5 n hm;rw [hcs]; simp
   refine ⟨ν',S',⟨g1,⟨fun n k hk=>?_,fun n m y z b h1 h2 h3 h4 h5 h6=>?_,fun n y b h1 h2 h3=>?_,fun b hb=>?_,r.heap.gl.mono (fun _ h=>.inl h) fun _ _=>rfl⟩,fun n hn=>?_,r.defers,r.nt,r.size,r.frame,r.env,fun b hb=>?_,fun b hb=>.inl (r.keep b hb),fun n y hy=>?_⟩⟩
   ·have hm:=nhq' hk
    rcases List.mem_append.1 hm with hm | hm
    ·exact g2.1 _ hm
    ·rcases List.mem_append.1 hm with hm | hm
     ·exact g6.1 _ hm
     ·exact g3 _ hm
   ·obtain ⟨n1,q1,q2,q3⟩:=hsrc n y b h1 h3 h5
    obtain ⟨n2,p1,p2,p3⟩:=hsrc m z b h2 h4 h6;have e:=r.heap.apart n1 n2 y z b q2 p2 q1 p1 h5 h6;subst e;rcases q3 with q3 | ⟨q3,q4⟩ <;> rcases p3 with p3 | ⟨p3,p4⟩
    ·exact n4s' d5.1 q3 p3
    ·exact absurd rfl (d5.2.2 n1 (nfh' q3) n1 (by rw [p4]; exact p3))
    ·exact absurd rfl (d5.2.2 n1 (nfh' p3) n1 (by rw [q4]; exact q3))
    ·exact q4.symm.trans p4
   ·obtain ⟨n1,q1,q2,q3⟩:=hsrc n y b h1 h2 h3
    obtain ⟨o1,o2⟩:=r.heap.own n1 y b q2 q1 h3;refine ⟨?_,o2⟩;rintro (hS | ⟨m,hm,hmh,z,hz,hbz⟩)
    ·exact o1 hS
    ·have e:=r.heap.apart n1 m y z b q2 hmh q1 hz h3 hbz
     subst e;refine d6 n1 (List.mem_append.2 ?_) hm;rcases q3 with q3 | ⟨q3,q4⟩
     ·exact .inl (nfh' q3)
     ·exact .inr (by rw [q4]; exact q3)
   ·rcases hb with hb | ⟨m,hm,hmh,z,hz,hbz⟩
    ·exact r.heap.stay b hb
    ·exact r.heap.lt hmh hz hbz
   ·show n ∈ keysB _++s.us
    rw [hkeys];cases hg:get ρ n with
    | some o=>simp [nn6' (nhq' hg)]
    | none=>
     simp only [ν',hg] at hn;by_cases hc:n ∈ keysH s.hp∨lo≤n
     ·rw [if_pos hc] at hn
      rcases hc with hc | hc
      ·simp [hc]
      ·have:=d7 n (r.used n hn) hc
       simp [this]
     ·rw [if_neg hc] at hn; simp at hn
   ·rcases hb with hb | ⟨m,hm,hmh,z,hz,hbz⟩
    ·exact r.sub b hb
    ·exact .inr (r.heap.own m z b hmh hz hbz).2
   ·have h1:=r.names n y hy
    have h2:=hnu n y hy
    have:get ρ n=none:=hno n fun hm=>by have:=d4 n hm; omega
    simp only [ν',this];rw [if_pos (.inr h2)]; exact h1
 ·simp at ht
theorem n7c' {e e':Ex} (h:eqEx e e'=true):e=e':=by
 cases e <;> cases e' <;> simp [eqEx] at h <;> first | rfl | (rw [h])
theorem n1l' {p:Ex×Spec} {e:Ex} {st:St G} {y:p.2.T G} (h:takeE [p] e st=some y):e=p.1∧p.2.take st=some y:=by
 have h:(bif eqEx e p.1 then p.2.take st else none)=some y:=h;generalize he:eqEx e p.1=b at h;cases b with
 | false=>simp at h
 | true=>exact ⟨n7c' he,h⟩
theorem n0c' {p q:Ex×Spec} {t:List (Ex×Spec)} {e:Ex} {st:St G} {y:Sum (p.2.T G) (SumE G (q :: t))} (h:takeE (p :: q :: t) e st=some y) :
  (∃ x,y=.inl x∧e=p.1∧p.2.take st=some x)∨∃ z,y=.inr z∧takeE (q :: t) e st=some z:=by
 have h:(bif eqEx e p.1 then match p.2.take st with | some x=>some (Sum.inl x) | none=>none
   else match takeE (q :: t) e st with | some y=>some (.inr y) | none=>none)=some y:=h
 generalize he:eqEx e p.1=b at h;cases b with
 | false=>
  simp only [cond_false] at h;split at h
  ·rename_i z hz
   exact .inr ⟨z,(Option.some.inj h).symm,hz⟩
  ·simp at h
 | true=>
  simp only [cond_true] at h;split at h
  ·rename_i z hz
   exact .inl ⟨z,(Option.some.inj h).symm,n7c' he,hz⟩
  ·simp at h
theorem nrg' {cx:Cx} (hnu:∀ n y,cx.nu0 n=some y→lo≤n) {R:Type}:∀ (E:List (Ex×Spec)) {e:Ex} {st:St G} {y:SumE G E},takeE E e st=some y→∀ {a:Act} {w:World},Rel G cx st a w→∀ (k:Ex×St G→Option R) (o:R),caseE E y k=some o →
  ∃ st',k (e,st')=some o∧Rel G cx st' a w
 | [],_,_,y,_,_,_,_,_,_,_=>y.elim
 | [p],e,st,y,h,a,w,r,k,o,hk=>by
  obtain ⟨rfl,h2⟩:=n1l' h;exact ⟨_,hk,Spec.take_rel h2 r hnu⟩
 | p :: q :: t,e,st,y,h,a,w,r,k,o,hk=>by
  rcases n0c' h with ⟨x,rfl,rfl,h3⟩ | ⟨z,rfl,h2⟩
  ·exact ⟨_,hk,Spec.take_rel h3 r hnu⟩
  ·exact nrg' hnu (q :: t) h2 r k o hk
theorem n2e':∀ (E:List (Ex×Spec)) (y:SumE G E) (e0:Ex) (st:St G),takeE E e0 st=some y→∀ o,caseE E y some=some o→o.1=e0
 | [],y,_,_,_,_,_=>y.elim
 | [p],y,e0,st,h,o,ho=>by
  obtain ⟨rfl,_⟩:=n1l' h;have ho:some (p.1,p.2.mk' y)=some o:=ho;rw [← Option.some.inj ho]
 | p :: q :: t,y,e0,st,h,o,ho=>by
  rcases n0c' h with ⟨x,rfl,rfl,h3⟩ | ⟨z,rfl,h2⟩
  ·have ho:some (p.1,p.2.mk' x)=some o:=ho
   rw [← Option.some.inj ho]
  ·exact n2e' (q :: t) z e0 st h2 o ho
theorem nbbf' {E:List (Ex×Spec)} {m:M (Ex×St G)} (hm:Law m) {e:Ex} {st':St G} (h:cutM E m _ some=some (e,st')) :
  ∃ st,m _ some=some (e,st)∧∀ {cx:Cx} (_:∀ n y,cx.nu0 n=some y→lo≤n) {a:Act} {w:World},Rel G cx st a w→Rel G cx st' a w:=by
 unfold cutM at h;have hl:=hm (SumE G E) fun p=>takeE E p.1 p.2
 rw [hl] at h;cases hv:m _ some with
 | none=>rw [hv] at h; simp at h
 | some p=>
  rw [hv] at h;simp only [Option.bind] at h;cases hy:takeE E p.1 p.2 with
  | none=>rw [hy] at h; simp at h
  | some y=>
   rw [hy] at h;simp only at h;have he:=n2e' E y p.1 p.2 hy _ h;simp at he;subst he;refine ⟨p.2,rfl,fun {cx} hnu {a w} r=>?_⟩
   obtain ⟨st2,h1,h2⟩:=nrg' hnu E hy r some _ h;simp at h1; subst h1; exact h2
theorem nkq' {R:Type}:∀ (E:List (Ex×Spec)) (y:SumE G E) (k:Ex×St G→Option R),caseE E y k=(caseE E y some).bind k
 | [],y,_=>y.elim
 | [p],y,k=>rfl
 | p :: q :: t,y,k=>by
  cases y with
  | inl x=>rfl
  | inr y=>exact nkq' (q :: t) y k
theorem nbdr' {E:List (Ex×Spec)} {m:M (Ex×St G)}:Law (cutM E m):=by
 intro R k;unfold cutM;cases m _ (fun p=>takeE E p.1 p.2) with
 | none=>rfl
 | some y=>exact nkq' E y k
theorem nmo' {j:Option (List (Ex×Spec))} {m:M (Ex×St G)} (hm:Law m):Law (cutO j m):=by
 cases j with
 | none=>exact hm
 | some E=>exact nbdr'
theorem nqz' {j:Option (List (Ex×Spec))} {m:M (Ex×St G)} (hm:Law m) {e:Ex} {st':St G} (h:cutO j m _ some=some (e,st')) :
  ∃ st,m _ some=some (e,st)∧∀ {cx:Cx} (_:∀ n y,cx.nu0 n=some y→lo≤n) {a:Act} {w:World},Rel G cx st a w→Rel G cx st' a w:=by
 cases j with
 | none=>exact ⟨st',h,fun {_} _ {_ _} r=>r⟩
 | some E=>exact nbbf' hm h
end Go.Ab
namespace Go.Ab
variable {G:Sig}
def loops:Code→List Code
 | .seq a b=>loops a++loops b
 | .cond _ a b=>loops a++loops b
 | .block _ a=>loops a
 | .loop a=>a :: loops a
 | _=>[]
theorem no6':∀ c:Code,ndj' c=(loops c).length:=by
 intro c
 induction c with
 | seq a b iha ihb=>simp [ndj',loops,iha,ihb]
 | cond x a b iha ihb=>simp [ndj',loops,iha,ihb]
 | block n a ih=>simp [ndj',loops,ih]
 | loop a ih=>simp [ndj',loops,ih]
 | _=>rfl
def ExR:Ex→Exit→Prop
 | .normal,.normal=>True
 | .exit i,.exit j=>i=j
 | .ret,.ret=>True
 | _,_=>False
theorem npe' {e:Exit} (h:ExR .normal e):e=.normal:=by cases e <;> first | rfl | exact h.elim
theorem nw0' {i:Nat} {e:Exit} (h:ExR (.exit i) e):e=.exit i:=by
 cases e <;> first | exact h.elim | (have:i=_:=h; rw [this])
theorem nve' {e:Exit} (h:ExR .ret e):e=.ret:=by cases e <;> first | rfl | exact h.elim
structure LoopOK (P:Program) (G:Sig) (nt:Nat) (f:St G→M (Ex×St G)) (c:Code):Prop where
 law:∀ st,Law (f st)
 wp:∀ st ex st',f st (Ex×St G) some=some (ex,st')→∀ (cx:Cx) (a:Act) (w:World) (Q:Exit→Act→World→Prop),cx.nt=nt→(∀ n y,cx.nu0 n=some y→lo≤n)→Rel G cx st a w →
  (∀ e a' w',ExR ex e→Rel G cx st' a' w'→Q e a' w')→(Code.loop c).wp P Q a w
structure DrawOK (P:Program) (G:Sig) (nt:Nat) (f:Array Oper→St G→M (St G)):Prop where
 law:∀ ops st,Law (f ops st)
 wp:∀ ops st st',f ops st (St G) some=some st'→∀ (cx:Cx) (a:Act) (w:World) (id:Nat) (Q:Exit→Act→World→Prop),cx.nt=nt→Rel G cx st a w →
  (∀ a' w',Rel G cx st' a' w'→Q .normal a' w')→(Code.region id ops true).wp P Q a w
theorem nwe':∀ (ks:List Nat) (l:List (Nat×Sv G.T)) (k:Nat) (s:Sv G.T),get (nzc' l ks) k=some s→get l k=some s
 | [],_,_,_,h=>h
 | n :: t,l,k,s,h=>by
  have:=nwe' t (del l n) k s h
  rw [nsb'] at this;by_cases e:n=k
  ·simp [e] at this
  ·simpa [e] using this
theorem Rel.kill {cx:Cx} {st:St G} {a:Act} {w:World} (h:Rel G cx st a w) (ks:List Nat):Rel G cx (st.kill ks) a w:=
 let ⟨ν,S,r⟩:=h
 ⟨ν,S,⟨fun k s hk=>r.slot k s (nwe' ks _ k s hk),r.heap,r.used,r.defers,r.nt,r.size,r.frame,r.env,r.sub,r.keep,r.names⟩⟩
section
variable {P:Program} (ok:SigOK P G) (eqok:EqOK P G) {cf:CallF G} (cfok:CfOK P G cf) {nt:Nat} {drawn:Array Oper→St G→M (St G)} (dok:DrawOK P G nt drawn)
 {lp:Nat→St G→M (Ex×St G)} {kl:Nat→List Nat} {jn:Nat→Option (List (Ex×Spec))}
theorem n2h' (tm:List (Nat×Sv G.T)) (c:Operand):Law (condB tm c):=by
 cases c with
 | tmp t=>
  intro R k;show condT tm t R k=(condT tm t _ some).bind k;unfold condT;split
  ·rename_i b _; cases b <;> rfl
  ·rfl
 | const v=>show Law (condV v); cases v <;> first | exact nf' _ | exact ni'
 | global g=>exact ni'
 | func f=>exact ni'
theorem n35' {id:Nat} {f:St G→M (Ex×St G)} (hf:∀ st,Law (f st)) (st:St G):Law (preM jn id f st):=by
 refine nb' (nmo' (nf' _)) fun p=>?_
 split
 ·exact hf _
 ·exact ni'
theorem n0r' {id:Nat} {f:St G→M (Ex×St G)} {st st':St G} {ex:Ex} (h:preM jn id f st _ some=some (ex,st')) :
  ∃ st1,f st1 _ some=some (ex,st')∧∀ {cx:Cx} {a:Act} {w:World},(∀ n y,cx.nu0 n=some y→lo≤n)→Rel G cx st a w→Rel G cx st1 a w:=by
 obtain ⟨⟨e1,st1⟩,h1,h2⟩:=(nmo' (nf' _)).spec (M.bind_spec h);obtain ⟨st0,h0,hcut⟩:=nqz' (nf' _) h1;simp [M.ret] at h0;obtain ⟨rfl,rfl⟩:=h0;exact ⟨st1,h2,fun hnu r=>hcut hnu r⟩
include cfok dok in
theorem nfu':∀ (c:Code) (n:Nat) (st:St G),(∀ (k:Nat) c',(loops c)[k]?=some c'→LoopOK P G nt (lp (n + k)) c')→Law (runC cf nt drawn lp kl jn n c st)
 | .skip,_,_,_=>nf' _
 | .ret,_,_,_=>nf' _
 | .exit _,_,_,_=>nf' _
 | .seq a b,n,st,hl=>by
  unfold runC;refine nb' (nmo' (nfu' a n st fun k c' hk=>hl k c' ?_)) fun p=>?_
  ·simp only [loops]; rw [List.getElem?_append_left (List.getElem?_eq_some_iff.1 hk).1]; exact hk
  ·split
   ·refine nfu' b _ _ fun k c' hk=>?_
    rw [no6',Nat.add_assoc];refine hl _ c' ?_;simp only [loops]; rw [List.getElem?_append_right (by omega),Nat.add_sub_cancel_left]; exact hk
   ·exact nf' _
 | .cond c a b,n,st,hl=>by
  unfold runC;refine nb' (n2h' _ _) fun p=>?_
  split
  ·refine nfu' a n _ fun k c' hk=>hl k c' ?_
   simp only [loops]; rw [List.getElem?_append_left (List.getElem?_eq_some_iff.1 hk).1]; exact hk
  ·refine nfu' b _ _ fun k c' hk=>?_
   rw [no6',Nat.add_assoc];refine hl _ c' ?_;simp only [loops]; rw [List.getElem?_append_right (by omega),Nat.add_sub_cancel_left]; exact hk
 | .block id a,n,st,hl=>by
  unfold runC;refine nb' (nfu' a n st hl) fun p=>?_
  split <;> exact nf' _
 | .loop c,n,st,hl=>(hl 0 c rfl).law st
 | .region id ops false,_,st,_=>by
  unfold runC;exact n35' (fun st=>nmo' (nb' (ns9' (cx:=⟨default,fun _=>False,fun _=>False,fun _=>none,nt⟩) cfok ops ops.toList st) fun _=>nf' _)) st
 | .region id ops true,_,st,_=>n35' (fun st=>nmo' (nb' (dok.law _ _) fun _=>nf' _)) st
 | .rangeFunc ..,_,_,_=>ni'
 | .scope _,_,_,_=>ni'
 | .label _,_,_,_=>ni'
 | .goto _,_,_,_=>ni'
 | .refuse _,_,_,_=>ni'
include ok eqok cfok dok in
theorem ngw' {cx:Cx} (hnt:cx.nt=nt) (hnu:∀ n y,cx.nu0 n=some y→lo≤n):∀ (c:Code) (n:Nat) (st st':St G) (ex:Ex) (a:Act) (w:World) (Q:Exit→Act→World→Prop),
  (∀ (k:Nat) c',(loops c)[k]?=some c'→LoopOK P G nt (lp (n + k)) c')→runC cf nt drawn lp kl jn n c st (Ex×St G) some=some (ex,st')→Rel G cx st a w →
  (∀ e a' w',ExR ex e→Rel G cx st' a' w'→Q e a' w')→c.wp P Q a w
 | .skip,_,st,st',ex,a,w,Q,_,h,r,hQ=>by
  simp [runC,M.ret] at h; obtain ⟨rfl,rfl⟩:=h;exact wp_skip (hQ _ _ _ trivial r)
 | .ret,_,st,st',ex,a,w,Q,_,h,r,hQ=>by
  simp [runC,M.ret] at h; obtain ⟨rfl,rfl⟩:=h;exact wp_ret (hQ _ _ _ trivial r)
 | .exit i,_,st,st',ex,a,w,Q,_,h,r,hQ=>by
  simp [runC,M.ret] at h; obtain ⟨rfl,rfl⟩:=h;exact wp_exit (hQ _ _ _ rfl r)
 | .seq x y,n,st,st',ex,a,w,Q,hl,h,r,hQ=>by
  unfold runC at h
  have hlx:∀ (k:Nat) c',(loops x)[k]?=some c'→LoopOK P G nt (lp (n + k)) c':=fun k c' hk=>hl k c' (by
   simp only [loops]; rw [List.getElem?_append_left (List.getElem?_eq_some_iff.1 hk).1]; exact hk)
  obtain ⟨⟨e1,st1⟩,h1,h2⟩:=(nmo' (nfu' cfok dok x n st hlx)).spec (M.bind_spec h);obtain ⟨st0,h0,hcut⟩:=nqz' (nfu' cfok dok x n st hlx) h1;refine wp_seq (ngw' hnt hnu x n st st0 e1 a w _ hlx h0 r fun e a' w' he r''=>?_)
  have r':=hcut hnu r'';cases e1 with
  | normal=>
   rw [npe' he];refine ngw' hnt hnu y (n + ndj' x) st1 st' ex a' w' Q (fun k c' hk=>?_) h2 r' hQ
   rw [no6',Nat.add_assoc];refine hl _ c' ?_;simp only [loops]; rw [List.getElem?_append_right (by omega),Nat.add_sub_cancel_left]; exact hk
  | exit i=>
   simp [M.ret] at h2; obtain ⟨rfl,rfl⟩:=h2;rw [nw0' he];exact hQ _ _ _ rfl r'
  | ret=>
   simp [M.ret] at h2; obtain ⟨rfl,rfl⟩:=h2;rw [nve' he];exact hQ _ _ _ trivial r'
 | .cond c x y,n,st,st',ex,a,w,Q,hl,h,r,hQ=>by
  unfold runC at h;obtain ⟨⟨b,g⟩,hb,h2⟩:=(n2h' st.tm c).spec (M.bind_spec h)
  have hcb:a.eval c=.bool b∧Rel G cx (st.note g) a w:=by
   obtain ⟨ν,S,r⟩:=r;cases c with
   | tmp t=>
    simp only [condB,condT] at hb;split at hb
    ·rename_i b0 hg
     have:(b0,some (t,b0))=(b,g):=by cases b0 <;> simpa using hb
     simp at this;obtain ⟨rfl,rfl⟩:=this;exact ⟨n1j' r hg,ν,S,r.note hg⟩
    ·simp at hb
   | const v=>
    cases v with
    | bool b0=>
     simp [condB,condV,M.ret] at hb;obtain ⟨rfl,rfl⟩:=hb;exact ⟨rfl,ν,S,r⟩
    | _=>simp [condB,condV,M.fail] at hb
   | global _=>simp [condB,M.fail] at hb
   | func _=>simp [condB,M.fail] at hb
  refine wp_cond hcb.1 ?_;cases b with
  | true=>
   refine ngw' hnt hnu x n _ st' ex a w Q (fun k c' hk=>hl k c' ?_) h2 hcb.2 hQ
   simp only [loops]; rw [List.getElem?_append_left (List.getElem?_eq_some_iff.1 hk).1]; exact hk
  | false=>
   refine ngw' hnt hnu y (n + ndj' x) _ st' ex a w Q (fun k c' hk=>?_) h2 hcb.2 hQ
   rw [no6',Nat.add_assoc];refine hl _ c' ?_;simp only [loops]; rw [List.getElem?_append_right (by omega),Nat.add_sub_cancel_left]; exact hk
 | .block id x,n,st,st',ex,a,w,Q,hl,h,r,hQ=>by
  unfold runC at h;obtain ⟨⟨e1,st1⟩,h1,h2⟩:=(nfu' cfok dok x n st hl).spec (M.bind_spec h);refine wp_block (ngw' hnt hnu x n st st1 e1 a w _ hl h1 r fun e a' w' he r'=>?_)
  cases e1 with
  | normal=>
   simp [M.ret] at h2; obtain ⟨rfl,rfl⟩:=h2;rw [npe' he];exact hQ _ _ _ trivial r'
  | exit i=>
   simp only [M.ret,nbn'] at h2;rw [nw0' he];by_cases hi:i=id
   ·simp [hi] at h2; obtain ⟨rfl,rfl⟩:=h2
    simp only [Exit.inBlock,hi,if_true];exact hQ _ _ _ trivial r'
   ·simp [hi] at h2; obtain ⟨rfl,rfl⟩:=h2
    simp only [Exit.inBlock,hi,if_false];exact hQ _ _ _ rfl r'
  | ret=>
   simp [M.ret] at h2; obtain ⟨rfl,rfl⟩:=h2;rw [nve' he];exact hQ _ _ _ trivial r'
 | .loop c,n,st,st',ex,a,w,Q,hl,h,r,hQ=>(hl 0 c rfl).wp st ex st' h cx a w Q hnt hnu r hQ
 | .region id ops false,_,st,st',ex,a,w,Q,_,h,r,hQ=>by
  unfold runC at h;subst hnt;obtain ⟨stp,h,hpre⟩:=n0r' h;have r:=hpre hnu r;have hlr:=ns9' (cx:=cx) cfok ops ops.toList stp;obtain ⟨st0,h0,hcut⟩:=nqz' (nb' hlr fun _=>nf' _) h
  obtain ⟨st1,h1,h2⟩:=hlr.spec (M.bind_spec h0);simp [M.ret] at h2; obtain ⟨rfl,rfl⟩:=h2;exact wp_region_list (nux' ok eqok cfok ops.toList stp st1 a w h1 r fun a' w' r'=>hQ _ _ _ trivial (hcut hnu (r'.kill _)))
 | .region id ops true,_,st,st',ex,a,w,Q,_,h,r,hQ=>by
  unfold runC at h;obtain ⟨stp,h,hpre⟩:=n0r' h;have r:=hpre hnu r;obtain ⟨st0,h0,hcut⟩:=nqz' (nb' (dok.law ops stp) fun _=>nf' _) h
  obtain ⟨st1,h1,h2⟩:=(dok.law ops stp).spec (M.bind_spec h0);simp [M.ret] at h2; obtain ⟨rfl,rfl⟩:=h2;exact dok.wp ops stp st1 h1 cx a w id Q hnt r fun a' w' r'=>hQ _ _ _ trivial (hcut hnu (r'.kill _))
 | .rangeFunc ..,_,_,_,_,_,_,_,_,h,_,_=>by simp [runC,M.fail] at h
 | .scope _,_,_,_,_,_,_,_,_,h,_,_=>by simp [runC,M.fail] at h
 | .label _,_,_,_,_,_,_,_,_,h,_,_=>by simp [runC,M.fail] at h
 | .goto _,_,_,_,_,_,_,_,_,h,_,_=>by simp [runC,M.fail] at h
 | .refuse _,_,_,_,_,_,_,_,_,h,_,_=>by simp [runC,M.fail] at h
def resV (tmps:Array Value):ResultVar→Sem Value
 | .tmp t=>pure (tmps.getD t undef)
 | .cell a t=>do loadVar t (← asAddr (tmps.getD a undef))
theorem rs_p {ν:Nat→Option Value} {S:Nat→Prop} {h:Array Obj} {x:Pv G.T} {v:Value} (r:Rs G ν S h (.p x) v):Rp G ν S h x v:=by
 cases r; assumption
include ok in
theorem nbfj' {cx:Cx} {ν:Nat→Option Value} {S:Nat→Prop} {st:St G} {a:Act} {w:World} (r:RelI G cx ν S st a w) {rv:ResultVar} {x:Pv G.T} (h:resOf st rv=some x) :
  ∃ v,(resV a.tmps rv).run P w=.ok v w∧Rp G ν S w.heap x v:=by
 cases rv with
 | tmp t=>
  simp only [resOf] at h;split at h
  ·rename_i y hy
   simp at h; subst h;exact ⟨_,rfl,rs_p (r.slot t _ hy)⟩
  ·simp at h
 | cell b t=>
  simp only [resOf] at h;split at h
  ·rename_i c hc
   split at h
   ·rename_i cs hcs
    have hs:=r.slot b _ hc;generalize hu:a.tmps.getD b undef=u at hs;cases hs with
    | p _ _ hp=>
    cases hp with
    | one _ _ hrc=>
    obtain ⟨bb,off,vs,rfl,hf,hlen,hcell⟩:=nyj' ok r.heap hcs hrc
    have hno:G.ty t ≠ .no:=by
     intro e;rw [ok.nosz t e] at hlen
     have:cs=[]:=by have:=hf.1; rw [hlen] at this; exact List.eq_nil_of_length_eq_zero this
     subst this;simp [pack,e,Ty.isAgg] at h
    refine ⟨_,?_,nnl' h hf⟩;have hload:(loadCells ⟨bb,off,none⟩ vs.length).run P w=.ok vs.toArray w:=run_loadCells_list (P:=P) w ⟨bb,off,none⟩ vs (fun j v hj=>by rw [nfj']; exact hcell j v hj)
    simp only [resV,hu,asAddr,loadVar,Sem.run_bind,Sem.run_pure,Result.andThen_ok,ok.isAgg w hno];cases ha:(G.ty t).isAgg with
    | true=>simp only [if_true,Sem.run_bind,ok.sizeOf w hno,Result.andThen_ok,← hlen,hload,Sem.run_pure]
    | false=>
     have hone:vs.length=1:=by
      simp only [pack,ha,cond_false] at h;split at h
      ·have:=hf.1; simpa using this.symm
      ·simp at h
     obtain ⟨u,rfl⟩:∃ u,vs=[u]:=List.length_eq_one_iff.1 hone;have hu':=hcell 0 u rfl;simp only [Nat.add_zero] at hu';simp [hu']
   ·simp at h
  ·simp at h
include ok in
theorem n6l' {cx:Cx} {ν:Nat→Option Value} {S:Nat→Prop} {st:St G} {a:Act} {w:World} (r:RelI G cx ν S st a w):∀ (rs:List ResultVar) (xs:List (Pv G.T)),noa' st rs=some xs →
  ∃ vs:List Value,(rs.mapM (resV a.tmps)).run P w=.ok vs w∧F2 (Rp G ν S w.heap) xs vs
 | [],xs,h=>by simp [noa'] at h; subst h; exact ⟨[],rfl,.nil⟩
 | rv :: t,xs,h=>by
  simp only [noa'] at h;split at h
  ·rename_i x l hx hl
   simp at h; subst h;obtain ⟨v,h1,h2⟩:=nbfj' ok r hx;obtain ⟨vs,h3,h4⟩:=n6l' r t l hl;exact ⟨v :: vs,by simp only [List.mapM_cons,Sem.run_bind,h1,Result.andThen_ok,h3,Sem.run_pure],h4.cons h2⟩
  ·simp at h
include ok in
theorem n42' {cx:Cx} {ν:Nat→Option Value} {S:Nat→Prop} {st:St G} {a:Act} {w:World} (r:RelI G cx ν S st a w) {fn:Func} {s:Sv G.T} (h:resS st fn.results.toList=some s) :
  ∃ v,(results fn a.tmps).run P w=.ok v w∧Rs G ν S w.heap s v:=by
 unfold resS at h;cases hra:noa' st fn.results.toList with
 | none=>simp [hra] at h
 | some xs=>
  obtain ⟨vs,h1,h2⟩:=n6l' ok r _ xs hra
  have hrun:(results fn a.tmps).run P w=.ok (if h:vs.toArray.size=1 then vs.toArray[0] else .tuple vs.toArray) w:=by
   have e:results fn a.tmps=(do let vs ← fn.results.mapM (resV a.tmps); pure (if h:vs.size=1 then vs[0] else .tuple vs)):=by
    unfold results;congr 1
   rw [e,Sem.run_bind,Array.mapM_eq_mapM_toList];simp only [Sem.run_map,h1];rfl
  refine ⟨_,hrun,?_⟩;rw [hra] at h;cases xs with
  | nil=>
   simp at h; subst h
   have:=h2.inv_nil; subst this
   exact .tup _ _ .nil
  | cons x t=>
   cases t with
   | nil=>
    simp at h; subst h;obtain ⟨v,t',rfl,hv,ht⟩:=h2.inv
    have:=ht.inv_nil; subst this
    exact .p _ _ hv
   | cons y t'=>
    simp at h; subst h;have hl:vs.toArray.size ≠ 1:=by have:=h2.1; simp at this ⊢; omega
    rw [dif_neg hl];exact .tup _ _ h2
end
end Go.Ab
