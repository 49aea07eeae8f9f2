/- This file gives short names to a few lemmas, for texts that would be too long with the long ones. -/
import Derived.Test.YtdnhfofmfpgmmaaXWords
import Derived.Test.YtdnhfofmfpgmmaaWMore
namespace Go.Proofs.YtdnhfofmfpgmmaaW.PrintWords
open Go.RowKit
abbrev ra := @Kd.R_alloc
abbrev rb := @Kd.R_drewN
abbrev rc := @Kd.R_drew
abbrev ba := @below_alloc
abbrev bb := @pw_below_drewN
abbrev bc := @below_drew1
abbrev ca := @Kd.C_alloc
abbrev cb := @Kd.C_drewN
abbrev cc := @Kd.C_drew
abbrev sa := @List.setIfInBounds_toArray
abbrev sb := @List.set_cons_zero
abbrev sc := @List.set_cons_succ
abbrev rm := @Kd.R_mono
abbrev rd_ := @Kd.R_reads'
abbrev rf := @Kd.R_after
abbrev rl := @Kd.R_lt
abbrev re := @Kd.R_elder'
abbrev rh := @Kd.fresh'
abbrev rn := @Kd.R_new'
abbrev rs := @Kd.R_base
abbrev cl := @Kd.C_below
abbrev rw_ := @Kd.R_below
abbrev na := @Kd.N_alloc
abbrev nd_ := @Kd.N_drewN
abbrev ne_ := @Kd.N_drew
abbrev sa_ := @Kd.S_alloc
abbrev sd_ := @Kd.S_drewN
abbrev se_ := @Kd.S_drew
theorem A_ {p : Prop} (h : p) : Aside0 p := ⟨h⟩
abbrev nb (k : Nat) (v : Value) : Prop := some k ≠ v.ownBlock
end Go.Proofs.YtdnhfofmfpgmmaaW.PrintWords
