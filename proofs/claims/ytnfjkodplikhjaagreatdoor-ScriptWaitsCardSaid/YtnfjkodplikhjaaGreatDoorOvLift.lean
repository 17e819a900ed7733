import Derived.Test.YtnfjkodplikhjaaGreatDoorAbC
import Derived.Below
import Derived.ChangeSame
import Derived.Carry
set_option linter.all false
namespace Go.Ovl
open Go Go.Ab Go.RowKit Go.WideShapes Go.ChangeShapes
section
variable{H:Type}{enc:TypeId×Value->H}{P:Program}
theorem Axv{f:Func}{s:ChangeSpec}{apart JD handsOn again:Bool}{W W':World}{args:Array Value}{v:Value}{ds gs:List (DataW H)}{before pa pv:List MemPlace}
  (hW:DataW.Whole enc P f.params.toList s.vars apart W args.toList ds gs before)
  (hres:∀(b:Nat) (sp:Nat->Bool) (hd:Bool),DataW.TrodAll enc P W' b sp hd f.resultTypes.toList (v.resultList f.resultTypes.size) (s.fn H (ds++gs)).results [])
  (hargs:∀sp:Nat->Bool,(∀p∈before,sp p.block=true)->DataW.TrodAll enc P W' 0 sp true f.params.toList args.toList (s.fn H (ds++gs)).args pa)
  (hvars:∀sp:Nat->Bool,(∀p∈before,sp p.block=true)->DataW.TrodVars enc P W' sp s.vars (s.fn H (ds++gs)).vars pv)
  (hps:before=pa++pv) (hb:Below W.heap.size W W')
  (hok:∀(j:Nat) (t:TypeId) (r:Value),f.resultTypes[j]?=some t->(v.resultList f.resultTypes.size)[j]?=some r->Value.okWide P W' .any 0 t r) :
  s.post enc P f apart JD handsOn again W args v W':=by
 have hlt:∀p∈before,p.block<W.heap.size:=λp hp=>hW.lt p hp;have hold:∀p∈before,(λb=>decide (b<W.heap.size)) p.block=true:=λp hp=>by simpa using hlt p hp
 refine⟨ds,gs,before,[],pa,pv,hW,hres _ _ _,hargs _ hold,hvars _ hold,World.keptBut_mono (λp hp=>⟨hp,?_⟩) (hb.frame (· ∈before)),λ_=>?_⟩
 .rw[hps,n_]at hp;exact Or.inr hp
 .obtain⟨_,_,_,_,_,hz,hn⟩:=hW;refine⟨hok,_,_,([]++pa)++pv,⟨[]++pa,pv,trodAll_append (hargs _ (λ_ _=>rfl)) (hres _ _ _),hvars _ (λ_ _=>rfl),rfl,?_,?_⟩,?_⟩
  .intro b off hp;have hin:MemPlace.cell b off∈before:=by rw[hps];simpa using hp
   rw[hb.frozen (hlt _ hin)];exact hz b off hin
  .intro ha
   have:=hn ha
   rw[hps]at this;simpa using this
  .intro p hp _;rw[hps];simpa using hp
end
theorem Zj{H:Type}{enc:TypeId×Value->H}{P:Program}(hl:laidOutB P=true){W W':World}{sp:Nat->Bool}:∀(ts:List TypeId) (vs:List Value) (ds:List (DataW H)) (ps:List MemPlace),
  ts.all (λt=>P.readableRec t&&decide (t<P.types.size))=true->DataW.TrodAll enc P W 0 (λ_=>true) true ts vs ds ps->Below W.heap.size W W'->(∀x∈ps,x.block<W.heap.size)->(∀x∈ps,sp x.block=true)->
  DataW.TrodAll enc P W' 0 sp true ts vs ds ps
 |[],[],[],_,_,h,_,_,_=>h
 |t::ts,v::vs,d::ds,ps,hr,⟨p,q,h1,h2,e⟩,hb,hlt,hsp=>by
  simp only[U_,a_,t_]at hr;subst e;exact⟨p,q,WideElems.Trod_stays hl hr.1.1 hr.1.2 h1 (λx hx=>hb.same (hlt x (by simp[hx]))) (λx hx=>hsp x (by simp[hx])),
   Zj hl ts vs ds q (by simpa using hr.2) h2 hb (λx hx=>hlt x (by simp[hx])) (λx hx=>hsp x (by simp[hx])),rfl⟩
 |[],[],_::_,_,_,h,_,_,_=>h.elim
 |[],_::_,_,_,_,h,_,_,_=>by cases h
 |_::_,[],_,_,_,h,_,_,_=>by cases h
 |_::_,_::_,[],_,_,h,_,_,_=>by cases h
theorem Adi{H:Type}{enc:TypeId×Value->H}{P:Program}{W:World}{sp:Nat->Bool}:∀(ts:List TypeId) (vs:List Value) (ds:List (DataW H)) (ps:List MemPlace),DataW.TrodAll enc P W 0 sp true ts vs ds ps->ds.length=ts.length
 |[],[],[],_,_=>rfl
 |t::ts,v::vs,d::ds,ps,⟨p,q,h1,h2,e⟩=>by simp[Adi ts vs ds q h2]
 |[],[],_::_,_,h=>h.elim
 |[],_::_,_,_,h=>by cases h
 |_::_,[],_,_,h=>by cases h
 |_::_,_::_,[],_,h=>by cases h
theorem Cax{α:Type}{l:List α}(h:l.length=0):l=[]:=S_ h
theorem Cay{α:Type}{l:List α}(h:l.length=1):∃a,l=[a]:=List.length_eq_one_iff.1 h
theorem Caz{α:Type}{l:List α}(h:l.length=2):∃a b,l=[a,b]:=by
 match l,h with
 |[a,b],_=>exact⟨a,b,rfl⟩
theorem Bsz{α:Type}{l:List α}(h:l.length=3):∃a b c,l=[a,b,c]:=by
 match l,h with
 |[a,b,c],_=>exact⟨a,b,c,rfl⟩
theorem Ca0{α:Type}{l:List α}(h:l.length=4):∃a b c d,l=[a,b,c,d]:=by
 match l,h with
 |[a,b,c,d],_=>exact⟨a,b,c,d,rfl⟩
theorem Ca1{α:Type}{l:List α}(h:l.length=5):∃a b c d e,l=[a,b,c,d,e]:=by
 match l,h with
 |[a,b,c,d,e],_=>exact⟨a,b,c,d,e,rfl⟩
section
variable{G:Sig}
theorem Acd{s:List PSh}{x:VR G s}(h:WfA G s x)(i j:Nat){c:Cv G.T}(hc:((MJ s x)[i]?.bind λp=>p.cells[j]?)=some c):WfC G c:=by
 cases hp:(MJ s x)[i]? with
 |none=>rw[hp]at hc;simp at hc
 |some p=>rw[hp]at hc;simp only[c_]at hc;exact h p (o_ hp) c (o_ hc)
theorem WS{k:IntKind}{n:Int}(h:WfC G (.sc (.int k n))):k.min<=n/\n<=k.max:=by
 cases h with
 |int _ _ h=>simpa[Lit.wf]using h
theorem Cas{n:Int}(h:WfC G (.sc (.int .i64 n))):-9223372036854775808<=n/\n<9223372036854775808:=by have:=WS h;simp[IntKind.min,IntKind.max,IntKind.signed,IntKind.bits]at this;omega
theorem Caw{n:Int}(h:WfC G (.sc (.int .u64 n))):0<=n/\n<18446744073709551616:=by have:=WS h;simp[IntKind.min,IntKind.max,IntKind.signed,IntKind.bits]at this;omega
theorem Cav{n:Int}(h:WfC G (.sc (.int .u32 n))):0<=n/\n<4294967296:=by have:=WS h;simp[IntKind.min,IntKind.max,IntKind.signed,IntKind.bits]at this;omega
theorem Cau{n:Int}(h:WfC G (.sc (.int .u16 n))):0<=n/\n<65536:=by have:=WS h;simp[IntKind.min,IntKind.max,IntKind.signed,IntKind.bits]at this;omega
theorem Ace{n:Int}(h:WfC G (.sc (.int .u8 n))):0<=n/\n<256:=by have:=WS h;simp[IntKind.min,IntKind.max,IntKind.signed,IntKind.bits]at this;omega
theorem Cat{s:ByteArray}(h:WfC G (.sc (.string s))):s.size<=maxLen:=by
 cases h with
 |str _ h=>exact h
theorem Bth{t:Nat}{l:List (G.T t)}{Q:G.T t->Prop}(h:WfC G (.ro t l))(hq:∀x,(∀(j:Nat) (c:Cv G.T),(G.enc t x)[j]?=some c->WfC G c)->Q x):l.length<=maxLen/\∀x∈l,Q x:=by
 cases h with
 |ro _ _ h he=>exact⟨h,λx hx=>by obtain⟨i,hi⟩:=c9_.1 hx;exact hq x λj c hj=>he i x j c hi hj⟩
end
end Go.Ovl
