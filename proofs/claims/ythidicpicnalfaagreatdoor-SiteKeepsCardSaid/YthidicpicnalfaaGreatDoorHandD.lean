import Derived.Test.YthidicpicnalfaaGreatDoorChecked
import Derived.Test.YthidicpicnalfaaGreatDoorAbC
import Derived.Test.YthidicpicnalfaaGreatDoorAbH
import Derived.Recover
import Derived.Test.YthidicpicnalfaaGreatDoorHandL
set_option linter.all false
namespace Go.Ovl
open Go Go.Ab Go.Proofs Go.RowKit Go.Lib
set_option maxHeartbeats 4000000
set_option maxRecDepth 100000
theorem Bl5(v:Value)(w:World):CallsD Tryz.prog 155 #[v] .returning w λe u w'=>e=.returned (.tuple #[])/\u=.returning/\w'=w:=by
 refine callsD_of_wpS Tryz.func155 rfl λc₀ cs hu=>?_;apply wpS_seq;apply wpS_region;simp[wpOpsS,go_sem,recoverD,hu,Tryz.ntmps155,Exit.thenS];apply wpS_seq;apply wpS_region;simp[wpOpsS,go_sem,hu,Exit.thenS];refine wpS_cond (t:=false) (by simp[Act.eval,Array.replicate]) ?_;simp only[f8_,g3_];refine wpS_of_wp (wp_skip ?_);cases c₀
 simp_all[bodyPostS,results,Tryz.results155]
theorem Bl9(a:Act)(w:World)(Q:Exit->Act->World->Prop)(h:∀v,Q .normal { a with defers:={ target:=.fn (.func 155) #[],args:=#[v] }::a.defers } w):(dOf 1 (BV Tryz.f126)).wp Tryz.prog Q a w:=by refine wp_region ?_;simp[wpOps,go_sem];exact .inl (h _)
end Go.Ovl
