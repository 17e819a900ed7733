import Derived.Test.YtnfjkodplikhjaaGreatDoorChecked
import Derived.Test.YtnfjkodplikhjaaGreatDoorAbC
import Derived.Test.YtnfjkodplikhjaaGreatDoorAbH
import Derived.Recover
import Derived.Test.YtnfjkodplikhjaaGreatDoorHandS
set_option linter.all false
namespace Go.Ovl
open Go Go.Ab Go.Proofs Go.RowKit Go.Lib
set_option maxHeartbeats 4000000
set_option maxRecDepth 100000
theorem Bsc(v:Value)(w:World):CallsD Tryz.prog 237 #[v] .returning w λe u w'=>e=.returned (.tuple #[])/\u=.returning/\w'=w:=by
 refine callsD_of_wpS Tryz.func237 rfl λc₀ cs hu=>?_;apply wpS_seq;apply wpS_region;simp[wpOpsS,go_sem,recoverD,hu,Tryz.ntmps237,Exit.thenS];apply wpS_seq;apply wpS_region;simp[wpOpsS,go_sem,hu,Exit.thenS];refine wpS_cond (t:=false) (by simp[Act.eval,Array.replicate]) ?_;simp only[f5_,f6_];refine wpS_of_wp (wp_skip ?_);cases c₀
 simp_all[bodyPostS,results,Tryz.results237]
theorem Bsh(a:Act)(w:World)(Q:Exit->Act->World->Prop)(h:∀v,Q .normal { a with defers:={ target:=.fn (.func 237) #[],args:=#[v] }::a.defers } w):(dOf 1 (Bf Tryz.f198)).wp Tryz.prog Q a w:=by refine wp_region ?_;simp[wpOps,go_sem];exact .inl (h _)
end Go.Ovl
