import Derived.Test.YtnaickmgbfjbkaaGreatDoorChecked
import Derived.Test.YtnaickmgbfjbkaaGreatDoorAbC
import Derived.Test.YtnaickmgbfjbkaaGreatDoorAbH
import Derived.Recover
import Derived.Test.YtnaickmgbfjbkaaGreatDoorHandL
set_option linter.all false
namespace Go.Ovl
open Go Go.Ab Go.Proofs Go.RowKit Go.Lib
set_option maxHeartbeats 4000000
set_option maxRecDepth 100000
theorem Bni(v:Value)(w:World):CallsD Tryz.prog 221 #[v] .returning w λe u w'=>e=.returned (.tuple #[])/\u=.returning/\w'=w:=by
 refine callsD_of_wpS Tryz.func221 rfl λc₀ cs hu=>?_;apply wpS_seq;apply wpS_region;simp[wpOpsS,go_sem,recoverD,hu,Tryz.ntmps221,Exit.thenS];apply wpS_seq;apply wpS_region;simp[wpOpsS,go_sem,hu,Exit.thenS];refine wpS_cond (t:=false) (by simp[Act.eval,Array.replicate]) ?_;simp only[Bool.false_eq_true,if_false];refine wpS_of_wp (wp_skip ?_);cases c₀
 simp_all[bodyPostS,results,Tryz.results221]
theorem Bnl(a:Act)(w:World)(Q:Exit->Act->World->Prop)(h:∀v,Q .normal { a with defers:={ target:=.fn (.func 221) #[],args:=#[v] }::a.defers } w):(dOf 1 (Bo Tryz.f173)).wp Tryz.prog Q a w:=by refine wp_region ?_;simp[wpOps,go_sem];exact .inl (h _)
end Go.Ovl
