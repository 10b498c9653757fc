/- What single calls do: the reference's bits. -/
import Derived.Test.YtjmnnkhdadoehaaQWalkA
import Derived.Test.YtjmnnkhdadoehaaQSpec
import Derived.Test.YtjmnnkhdadoehaaQRead
import Derived.Deep.OwnRows
import Derived.Lib.Hide
namespace Go.Proofs.Ytjmnnkhdadoehaa
open Go.RowKit
set_option linter.unusedSimpArgs false
set_option linter.unusedVariables false
attribute [local go_sem high] eql_25 neq_25 eql_24 neq_24 eql_27 neq_27 eql_41 neq_41 eql_29 neq_29 eql_43 neq_43 eql_108 neq_108 eql_61 neq_61 eql_90 neq_90 eql_64 neq_64 eql_104 neq_104 eql_67 neq_67 eql_71 neq_71
attribute [local go_sem ↓ high] yielded_undef
attribute [local go_sem] eqg_25 eqg_24 eqg_27 eqg_41 eqg_29 eqg_43 eqg_108 eqg_61 eqg_90 eqg_64 eqg_104 eqg_67 eqg_71 cell_grew frozen_grew size_grew grew_grew drewN_grew lt_addk size_setW Instr.field asAgg lt_gi_k lt_gi_kh lt_gi_k_k lt_gi_k_kh lt_gi_k_k_k lt_gi_k_k_kh lt_gi_i_k lt_gi_i_kh lt_gi_i_k_k lt_gi_i_k_kh lt_gi_i_k_k_k lt_gi_i_k_k_kh lt_gi_i_i_k lt_gi_i_i_kh lt_gi_i_i_k_k lt_gi_i_i_k_kh lt_gi_i_i_k_k_k lt_gi_i_i_k_k_kh lt_gi_i_i_i_k lt_gi_i_i_i_kh lt_gi_i_i_i_k_k lt_gi_i_i_i_k_kh lt_gi_i_i_i_k_k_k lt_gi_i_i_i_k_k_kh lt_gi_i_i_i_i_k lt_gi_i_i_i_i_kh lt_gi_i_i_i_i_k_k lt_gi_i_i_i_i_k_kh lt_gi_i_i_i_i_k_k_k lt_gi_i_i_i_i_k_k_kh lt_gi_i_i_i_i_i_k lt_gi_i_i_i_i_i_kh lt_gi_i_i_i_i_i_k_k lt_gi_i_i_i_i_i_k_kh lt_gi_i_i_i_i_i_k_k_k lt_gi_i_i_i_i_i_k_k_kh lt_gi_i_i_i_i_i_i_k lt_gi_i_i_i_i_i_i_kh lt_gi_i_i_i_i_i_i_k_k lt_gi_i_i_i_i_i_i_k_kh lt_gi_i_i_i_i_i_i_k_k_k lt_gi_i_i_i_i_i_i_k_k_kh lt_gi_i_i_i_i_i_i_i_k lt_gi_i_i_i_i_i_i_i_kh lt_gi_i_i_i_i_i_i_i_k_k lt_gi_i_i_i_i_i_i_i_k_kh lt_gi_i_i_i_i_i_i_i_k_k_k lt_gi_i_i_i_i_i_i_i_k_k_kh lt_gi_k_i lt_gi_k_ih lt_gi_k_i_k lt_gi_k_i_kh lt_gi_k_k_i lt_gi_k_k_ih lt_gi_k_k_i_k lt_gi_k_k_i_kh lt_gi_k_i_i lt_gi_k_i_ih lt_gi_k_i_i_k lt_gi_k_i_i_kh lt_gi_k_k_i_i lt_gi_k_k_i_ih lt_gi_k_k_i_i_k lt_gi_k_k_i_i_kh lt_gi_k_i_i_i lt_gi_k_i_i_ih lt_gi_k_i_i_i_k lt_gi_k_i_i_i_kh lt_gi_k_k_i_i_i lt_gi_k_k_i_i_ih lt_gi_k_k_i_i_i_k lt_gi_k_k_i_i_i_kh lt_gi_i_k_i lt_gi_i_k_ih lt_gi_i_k_i_k lt_gi_i_k_i_kh lt_gi_i_k_k_i lt_gi_i_k_k_ih lt_gi_i_k_k_i_k lt_gi_i_k_k_i_kh lt_gi_i_k_i_i lt_gi_i_k_i_ih lt_gi_i_k_i_i_k lt_gi_i_k_i_i_kh lt_gi_i_k_k_i_i lt_gi_i_k_k_i_ih lt_gi_i_k_k_i_i_k lt_gi_i_k_k_i_i_kh lt_gi_i_k_i_i_i lt_gi_i_k_i_i_ih lt_gi_i_k_i_i_i_k lt_gi_i_k_i_i_i_kh lt_gi_i_k_k_i_i_i lt_gi_i_k_k_i_i_ih lt_gi_i_k_k_i_i_i_k lt_gi_i_k_k_i_i_i_kh lt_gi_i_i_k_i lt_gi_i_i_k_ih lt_gi_i_i_k_i_k lt_gi_i_i_k_i_kh lt_gi_i_i_k_k_i lt_gi_i_i_k_k_ih lt_gi_i_i_k_k_i_k lt_gi_i_i_k_k_i_kh lt_gi_i_i_k_i_i lt_gi_i_i_k_i_ih lt_gi_i_i_k_i_i_k lt_gi_i_i_k_i_i_kh lt_gi_i_i_k_k_i_i lt_gi_i_i_k_k_i_ih lt_gi_i_i_k_k_i_i_k lt_gi_i_i_k_k_i_i_kh lt_gi_i_i_k_i_i_i lt_gi_i_i_k_i_i_ih lt_gi_i_i_k_i_i_i_k lt_gi_i_i_k_i_i_i_kh lt_gi_i_i_k_k_i_i_i lt_gi_i_i_k_k_i_i_ih lt_gi_i_i_k_k_i_i_i_k lt_gi_i_i_k_k_i_i_i_kh lt_gi_i_i_i_k_i lt_gi_i_i_i_k_ih lt_gi_i_i_i_k_i_k lt_gi_i_i_i_k_i_kh lt_gi_i_i_i_k_k_i lt_gi_i_i_i_k_k_ih lt_gi_i_i_i_k_k_i_k lt_gi_i_i_i_k_k_i_kh lt_gi_i_i_i_k_i_i lt_gi_i_i_i_k_i_ih lt_gi_i_i_i_k_i_i_k lt_gi_i_i_i_k_i_i_kh lt_gi_i_i_i_k_k_i_i lt_gi_i_i_i_k_k_i_ih lt_gi_i_i_i_k_k_i_i_k lt_gi_i_i_i_k_k_i_i_kh lt_gi_i_i_i_k_i_i_i lt_gi_i_i_i_k_i_i_ih lt_gi_i_i_i_k_i_i_i_k lt_gi_i_i_i_k_i_i_i_kh lt_gi_i_i_i_k_k_i_i_i lt_gi_i_i_i_k_k_i_i_ih lt_gi_i_i_i_k_k_i_i_i_k lt_gi_i_i_i_k_k_i_i_i_kh lt_gi_i_i_i_i_k_i lt_gi_i_i_i_i_k_ih lt_gi_i_i_i_i_k_i_k lt_gi_i_i_i_i_k_i_kh lt_gi_i_i_i_i_k_k_i lt_gi_i_i_i_i_k_k_ih lt_gi_i_i_i_i_k_k_i_k lt_gi_i_i_i_i_k_k_i_kh lt_gi_i_i_i_i_k_i_i lt_gi_i_i_i_i_k_i_ih lt_gi_i_i_i_i_k_i_i_k lt_gi_i_i_i_i_k_i_i_kh lt_gi_i_i_i_i_k_k_i_i lt_gi_i_i_i_i_k_k_i_ih lt_gi_i_i_i_i_k_k_i_i_k lt_gi_i_i_i_i_k_k_i_i_kh lt_gi_i_i_i_i_k_i_i_i lt_gi_i_i_i_i_k_i_i_ih lt_gi_i_i_i_i_k_i_i_i_k lt_gi_i_i_i_i_k_i_i_i_kh lt_gi_i_i_i_i_k_k_i_i_i lt_gi_i_i_i_i_k_k_i_i_ih lt_gi_i_i_i_i_k_k_i_i_i_k lt_gi_i_i_i_i_k_k_i_i_i_kh
end Go.Proofs.Ytjmnnkhdadoehaa

/- What single calls do: the reference's words. -/
namespace Go.Proofs.Ytjmnnkhdadoehaa
set_option linter.unusedSimpArgs false
set_option linter.unusedVariables false
open Go.RowKit
attribute [local go_sem high] eql_25 neq_25 eql_24 neq_24 eql_27 neq_27 eql_41 neq_41 eql_29 neq_29 eql_43 neq_43 eql_108 neq_108 eql_61 neq_61 eql_90 neq_90 eql_64 neq_64 eql_104 neq_104 eql_67 neq_67 eql_71 neq_71
attribute [local go_sem ↓ high] yielded_undef
attribute [local go_sem] eqg_25 eqg_24 eqg_27 eqg_41 eqg_29 eqg_43 eqg_108 eqg_61 eqg_90 eqg_64 eqg_104 eqg_67 eqg_71 cell_grew frozen_grew size_grew grew_grew drewN_grew lt_addk size_setW Instr.field asAgg lt_gi_k lt_gi_kh lt_gi_k_k lt_gi_k_kh lt_gi_k_k_k lt_gi_k_k_kh lt_gi_i_k lt_gi_i_kh lt_gi_i_k_k lt_gi_i_k_kh lt_gi_i_k_k_k lt_gi_i_k_k_kh lt_gi_i_i_k lt_gi_i_i_kh lt_gi_i_i_k_k lt_gi_i_i_k_kh lt_gi_i_i_k_k_k lt_gi_i_i_k_k_kh lt_gi_i_i_i_k lt_gi_i_i_i_kh lt_gi_i_i_i_k_k lt_gi_i_i_i_k_kh lt_gi_i_i_i_k_k_k lt_gi_i_i_i_k_k_kh lt_gi_i_i_i_i_k lt_gi_i_i_i_i_kh lt_gi_i_i_i_i_k_k lt_gi_i_i_i_i_k_kh lt_gi_i_i_i_i_k_k_k lt_gi_i_i_i_i_k_k_kh lt_gi_i_i_i_i_i_k lt_gi_i_i_i_i_i_kh lt_gi_i_i_i_i_i_k_k lt_gi_i_i_i_i_i_k_kh lt_gi_i_i_i_i_i_k_k_k lt_gi_i_i_i_i_i_k_k_kh lt_gi_i_i_i_i_i_i_k lt_gi_i_i_i_i_i_i_kh lt_gi_i_i_i_i_i_i_k_k lt_gi_i_i_i_i_i_i_k_kh lt_gi_i_i_i_i_i_i_k_k_k lt_gi_i_i_i_i_i_i_k_k_kh lt_gi_i_i_i_i_i_i_i_k lt_gi_i_i_i_i_i_i_i_kh lt_gi_i_i_i_i_i_i_i_k_k lt_gi_i_i_i_i_i_i_i_k_kh lt_gi_i_i_i_i_i_i_i_k_k_k lt_gi_i_i_i_i_i_i_i_k_k_kh lt_gi_k_i lt_gi_k_ih lt_gi_k_i_k lt_gi_k_i_kh lt_gi_k_k_i lt_gi_k_k_ih lt_gi_k_k_i_k lt_gi_k_k_i_kh lt_gi_k_i_i lt_gi_k_i_ih lt_gi_k_i_i_k lt_gi_k_i_i_kh lt_gi_k_k_i_i lt_gi_k_k_i_ih lt_gi_k_k_i_i_k lt_gi_k_k_i_i_kh lt_gi_k_i_i_i lt_gi_k_i_i_ih lt_gi_k_i_i_i_k lt_gi_k_i_i_i_kh lt_gi_k_k_i_i_i lt_gi_k_k_i_i_ih lt_gi_k_k_i_i_i_k lt_gi_k_k_i_i_i_kh lt_gi_i_k_i lt_gi_i_k_ih lt_gi_i_k_i_k lt_gi_i_k_i_kh lt_gi_i_k_k_i lt_gi_i_k_k_ih lt_gi_i_k_k_i_k lt_gi_i_k_k_i_kh lt_gi_i_k_i_i lt_gi_i_k_i_ih lt_gi_i_k_i_i_k lt_gi_i_k_i_i_kh lt_gi_i_k_k_i_i lt_gi_i_k_k_i_ih lt_gi_i_k_k_i_i_k lt_gi_i_k_k_i_i_kh lt_gi_i_k_i_i_i lt_gi_i_k_i_i_ih lt_gi_i_k_i_i_i_k lt_gi_i_k_i_i_i_kh lt_gi_i_k_k_i_i_i lt_gi_i_k_k_i_i_ih lt_gi_i_k_k_i_i_i_k lt_gi_i_k_k_i_i_i_kh lt_gi_i_i_k_i lt_gi_i_i_k_ih lt_gi_i_i_k_i_k lt_gi_i_i_k_i_kh lt_gi_i_i_k_k_i lt_gi_i_i_k_k_ih lt_gi_i_i_k_k_i_k lt_gi_i_i_k_k_i_kh lt_gi_i_i_k_i_i lt_gi_i_i_k_i_ih lt_gi_i_i_k_i_i_k lt_gi_i_i_k_i_i_kh lt_gi_i_i_k_k_i_i lt_gi_i_i_k_k_i_ih lt_gi_i_i_k_k_i_i_k lt_gi_i_i_k_k_i_i_kh lt_gi_i_i_k_i_i_i lt_gi_i_i_k_i_i_ih lt_gi_i_i_k_i_i_i_k lt_gi_i_i_k_i_i_i_kh lt_gi_i_i_k_k_i_i_i lt_gi_i_i_k_k_i_i_ih lt_gi_i_i_k_k_i_i_i_k lt_gi_i_i_k_k_i_i_i_kh lt_gi_i_i_i_k_i lt_gi_i_i_i_k_ih lt_gi_i_i_i_k_i_k lt_gi_i_i_i_k_i_kh lt_gi_i_i_i_k_k_i lt_gi_i_i_i_k_k_ih lt_gi_i_i_i_k_k_i_k lt_gi_i_i_i_k_k_i_kh lt_gi_i_i_i_k_i_i lt_gi_i_i_i_k_i_ih lt_gi_i_i_i_k_i_i_k lt_gi_i_i_i_k_i_i_kh lt_gi_i_i_i_k_k_i_i lt_gi_i_i_i_k_k_i_ih lt_gi_i_i_i_k_k_i_i_k lt_gi_i_i_i_k_k_i_i_kh lt_gi_i_i_i_k_i_i_i lt_gi_i_i_i_k_i_i_ih lt_gi_i_i_i_k_i_i_i_k lt_gi_i_i_i_k_i_i_i_kh lt_gi_i_i_i_k_k_i_i_i lt_gi_i_i_i_k_k_i_i_ih lt_gi_i_i_i_k_k_i_i_i_k lt_gi_i_i_i_k_k_i_i_i_kh lt_gi_i_i_i_i_k_i lt_gi_i_i_i_i_k_ih lt_gi_i_i_i_i_k_i_k lt_gi_i_i_i_i_k_i_kh lt_gi_i_i_i_i_k_k_i lt_gi_i_i_i_i_k_k_ih lt_gi_i_i_i_i_k_k_i_k lt_gi_i_i_i_i_k_k_i_kh lt_gi_i_i_i_i_k_i_i lt_gi_i_i_i_i_k_i_ih lt_gi_i_i_i_i_k_i_i_k lt_gi_i_i_i_i_k_i_i_kh lt_gi_i_i_i_i_k_k_i_i lt_gi_i_i_i_i_k_k_i_ih lt_gi_i_i_i_i_k_k_i_i_k lt_gi_i_i_i_i_k_k_i_i_kh lt_gi_i_i_i_i_k_i_i_i lt_gi_i_i_i_i_k_i_i_ih lt_gi_i_i_i_i_k_i_i_i_k lt_gi_i_i_i_i_k_i_i_i_kh lt_gi_i_i_i_i_k_k_i_i_i lt_gi_i_i_i_i_k_k_i_i_ih lt_gi_i_i_i_i_k_k_i_i_i_k lt_gi_i_i_i_i_k_k_i_i_i_kh
end Go.Proofs.Ytjmnnkhdadoehaa

/- What single calls do: the reference's entries. -/
namespace Go.Proofs.Ytjmnnkhdadoehaa
set_option linter.unusedSimpArgs false
set_option linter.unusedVariables false
open Go.RowKit
attribute [local irreducible] rMatch rMeet
attribute [local go_sem high] eql_25 neq_25 eql_24 neq_24 eql_27 neq_27 eql_41 neq_41 eql_29 neq_29 eql_43 neq_43 eql_108 neq_108 eql_61 neq_61 eql_90 neq_90 eql_64 neq_64 eql_104 neq_104 eql_67 neq_67 eql_71 neq_71
attribute [local go_sem ↓ high] yielded_undef
attribute [local go_sem] eqg_25 eqg_24 eqg_27 eqg_41 eqg_29 eqg_43 eqg_108 eqg_61 eqg_90 eqg_64 eqg_104 eqg_67 eqg_71 cell_grew frozen_grew size_grew grew_grew drewN_grew lt_addk size_setW Instr.field asAgg lt_gi_k lt_gi_kh lt_gi_k_k lt_gi_k_kh lt_gi_k_k_k lt_gi_k_k_kh lt_gi_i_k lt_gi_i_kh lt_gi_i_k_k lt_gi_i_k_kh lt_gi_i_k_k_k lt_gi_i_k_k_kh lt_gi_i_i_k lt_gi_i_i_kh lt_gi_i_i_k_k lt_gi_i_i_k_kh lt_gi_i_i_k_k_k lt_gi_i_i_k_k_kh lt_gi_i_i_i_k lt_gi_i_i_i_kh lt_gi_i_i_i_k_k lt_gi_i_i_i_k_kh lt_gi_i_i_i_k_k_k lt_gi_i_i_i_k_k_kh lt_gi_i_i_i_i_k lt_gi_i_i_i_i_kh lt_gi_i_i_i_i_k_k lt_gi_i_i_i_i_k_kh lt_gi_i_i_i_i_k_k_k lt_gi_i_i_i_i_k_k_kh lt_gi_i_i_i_i_i_k lt_gi_i_i_i_i_i_kh lt_gi_i_i_i_i_i_k_k lt_gi_i_i_i_i_i_k_kh lt_gi_i_i_i_i_i_k_k_k lt_gi_i_i_i_i_i_k_k_kh lt_gi_i_i_i_i_i_i_k lt_gi_i_i_i_i_i_i_kh lt_gi_i_i_i_i_i_i_k_k lt_gi_i_i_i_i_i_i_k_kh lt_gi_i_i_i_i_i_i_k_k_k lt_gi_i_i_i_i_i_i_k_k_kh lt_gi_i_i_i_i_i_i_i_k lt_gi_i_i_i_i_i_i_i_kh lt_gi_i_i_i_i_i_i_i_k_k lt_gi_i_i_i_i_i_i_i_k_kh lt_gi_i_i_i_i_i_i_i_k_k_k lt_gi_i_i_i_i_i_i_i_k_k_kh lt_gi_k_i lt_gi_k_ih lt_gi_k_i_k lt_gi_k_i_kh lt_gi_k_k_i lt_gi_k_k_ih lt_gi_k_k_i_k lt_gi_k_k_i_kh lt_gi_k_i_i lt_gi_k_i_ih lt_gi_k_i_i_k lt_gi_k_i_i_kh lt_gi_k_k_i_i lt_gi_k_k_i_ih lt_gi_k_k_i_i_k lt_gi_k_k_i_i_kh lt_gi_k_i_i_i lt_gi_k_i_i_ih lt_gi_k_i_i_i_k lt_gi_k_i_i_i_kh lt_gi_k_k_i_i_i lt_gi_k_k_i_i_ih lt_gi_k_k_i_i_i_k lt_gi_k_k_i_i_i_kh lt_gi_i_k_i lt_gi_i_k_ih lt_gi_i_k_i_k lt_gi_i_k_i_kh lt_gi_i_k_k_i lt_gi_i_k_k_ih lt_gi_i_k_k_i_k lt_gi_i_k_k_i_kh lt_gi_i_k_i_i lt_gi_i_k_i_ih lt_gi_i_k_i_i_k lt_gi_i_k_i_i_kh lt_gi_i_k_k_i_i lt_gi_i_k_k_i_ih lt_gi_i_k_k_i_i_k lt_gi_i_k_k_i_i_kh lt_gi_i_k_i_i_i lt_gi_i_k_i_i_ih lt_gi_i_k_i_i_i_k lt_gi_i_k_i_i_i_kh lt_gi_i_k_k_i_i_i lt_gi_i_k_k_i_i_ih lt_gi_i_k_k_i_i_i_k lt_gi_i_k_k_i_i_i_kh lt_gi_i_i_k_i lt_gi_i_i_k_ih lt_gi_i_i_k_i_k lt_gi_i_i_k_i_kh lt_gi_i_i_k_k_i lt_gi_i_i_k_k_ih lt_gi_i_i_k_k_i_k lt_gi_i_i_k_k_i_kh lt_gi_i_i_k_i_i lt_gi_i_i_k_i_ih lt_gi_i_i_k_i_i_k lt_gi_i_i_k_i_i_kh lt_gi_i_i_k_k_i_i lt_gi_i_i_k_k_i_ih lt_gi_i_i_k_k_i_i_k lt_gi_i_i_k_k_i_i_kh lt_gi_i_i_k_i_i_i lt_gi_i_i_k_i_i_ih lt_gi_i_i_k_i_i_i_k lt_gi_i_i_k_i_i_i_kh lt_gi_i_i_k_k_i_i_i lt_gi_i_i_k_k_i_i_ih lt_gi_i_i_k_k_i_i_i_k lt_gi_i_i_k_k_i_i_i_kh lt_gi_i_i_i_k_i lt_gi_i_i_i_k_ih lt_gi_i_i_i_k_i_k lt_gi_i_i_i_k_i_kh lt_gi_i_i_i_k_k_i lt_gi_i_i_i_k_k_ih lt_gi_i_i_i_k_k_i_k lt_gi_i_i_i_k_k_i_kh lt_gi_i_i_i_k_i_i lt_gi_i_i_i_k_i_ih lt_gi_i_i_i_k_i_i_k lt_gi_i_i_i_k_i_i_kh lt_gi_i_i_i_k_k_i_i lt_gi_i_i_i_k_k_i_ih lt_gi_i_i_i_k_k_i_i_k lt_gi_i_i_i_k_k_i_i_kh lt_gi_i_i_i_k_i_i_i lt_gi_i_i_i_k_i_i_ih lt_gi_i_i_i_k_i_i_i_k lt_gi_i_i_i_k_i_i_i_kh lt_gi_i_i_i_k_k_i_i_i lt_gi_i_i_i_k_k_i_i_ih lt_gi_i_i_i_k_k_i_i_i_k lt_gi_i_i_i_k_k_i_i_i_kh lt_gi_i_i_i_i_k_i lt_gi_i_i_i_i_k_ih lt_gi_i_i_i_i_k_i_k lt_gi_i_i_i_i_k_i_kh lt_gi_i_i_i_i_k_k_i lt_gi_i_i_i_i_k_k_ih lt_gi_i_i_i_i_k_k_i_k lt_gi_i_i_i_i_k_k_i_kh lt_gi_i_i_i_i_k_i_i lt_gi_i_i_i_i_k_i_ih lt_gi_i_i_i_i_k_i_i_k lt_gi_i_i_i_i_k_i_i_kh lt_gi_i_i_i_i_k_k_i_i lt_gi_i_i_i_i_k_k_i_ih lt_gi_i_i_i_i_k_k_i_i_k lt_gi_i_i_i_i_k_k_i_i_kh lt_gi_i_i_i_i_k_i_i_i lt_gi_i_i_i_i_k_i_i_ih lt_gi_i_i_i_i_k_i_i_i_k lt_gi_i_i_i_i_k_i_i_i_kh lt_gi_i_i_i_i_k_k_i_i_i lt_gi_i_i_i_i_k_k_i_i_ih lt_gi_i_i_i_i_k_k_i_i_i_k lt_gi_i_i_i_i_k_k_i_i_i_kh
end Go.Proofs.Ytjmnnkhdadoehaa

/- What single calls do: rows of entries. -/
namespace Go.Proofs.Ytjmnnkhdadoehaa
open Go.RowKit
set_option linter.unusedSimpArgs false
set_option linter.unusedVariables false
attribute [local go_sem high] eql_25 neq_25 eql_24 neq_24 eql_27 neq_27 eql_41 neq_41 eql_29 neq_29 eql_43 neq_43 eql_108 neq_108 eql_61 neq_61 eql_90 neq_90 eql_64 neq_64 eql_104 neq_104 eql_67 neq_67 eql_71 neq_71
attribute [local go_sem ↓ high] yielded_undef
attribute [local go_sem] eqg_25 eqg_24 eqg_27 eqg_41 eqg_29 eqg_43 eqg_108 eqg_61 eqg_90 eqg_64 eqg_104 eqg_67 eqg_71 cell_grew frozen_grew size_grew grew_grew drewN_grew lt_addk size_setW Instr.field asAgg lt_gi_k lt_gi_kh lt_gi_k_k lt_gi_k_kh lt_gi_k_k_k lt_gi_k_k_kh lt_gi_i_k lt_gi_i_kh lt_gi_i_k_k lt_gi_i_k_kh lt_gi_i_k_k_k lt_gi_i_k_k_kh lt_gi_i_i_k lt_gi_i_i_kh lt_gi_i_i_k_k lt_gi_i_i_k_kh lt_gi_i_i_k_k_k lt_gi_i_i_k_k_kh lt_gi_i_i_i_k lt_gi_i_i_i_kh lt_gi_i_i_i_k_k lt_gi_i_i_i_k_kh lt_gi_i_i_i_k_k_k lt_gi_i_i_i_k_k_kh lt_gi_i_i_i_i_k lt_gi_i_i_i_i_kh lt_gi_i_i_i_i_k_k lt_gi_i_i_i_i_k_kh lt_gi_i_i_i_i_k_k_k lt_gi_i_i_i_i_k_k_kh lt_gi_i_i_i_i_i_k lt_gi_i_i_i_i_i_kh lt_gi_i_i_i_i_i_k_k lt_gi_i_i_i_i_i_k_kh lt_gi_i_i_i_i_i_k_k_k lt_gi_i_i_i_i_i_k_k_kh lt_gi_i_i_i_i_i_i_k lt_gi_i_i_i_i_i_i_kh lt_gi_i_i_i_i_i_i_k_k lt_gi_i_i_i_i_i_i_k_kh lt_gi_i_i_i_i_i_i_k_k_k lt_gi_i_i_i_i_i_i_k_k_kh lt_gi_i_i_i_i_i_i_i_k lt_gi_i_i_i_i_i_i_i_kh lt_gi_i_i_i_i_i_i_i_k_k lt_gi_i_i_i_i_i_i_i_k_kh lt_gi_i_i_i_i_i_i_i_k_k_k lt_gi_i_i_i_i_i_i_i_k_k_kh lt_gi_k_i lt_gi_k_ih lt_gi_k_i_k lt_gi_k_i_kh lt_gi_k_k_i lt_gi_k_k_ih lt_gi_k_k_i_k lt_gi_k_k_i_kh lt_gi_k_i_i lt_gi_k_i_ih lt_gi_k_i_i_k lt_gi_k_i_i_kh lt_gi_k_k_i_i lt_gi_k_k_i_ih lt_gi_k_k_i_i_k lt_gi_k_k_i_i_kh lt_gi_k_i_i_i lt_gi_k_i_i_ih lt_gi_k_i_i_i_k lt_gi_k_i_i_i_kh lt_gi_k_k_i_i_i lt_gi_k_k_i_i_ih lt_gi_k_k_i_i_i_k lt_gi_k_k_i_i_i_kh lt_gi_i_k_i lt_gi_i_k_ih lt_gi_i_k_i_k lt_gi_i_k_i_kh lt_gi_i_k_k_i lt_gi_i_k_k_ih lt_gi_i_k_k_i_k lt_gi_i_k_k_i_kh lt_gi_i_k_i_i lt_gi_i_k_i_ih lt_gi_i_k_i_i_k lt_gi_i_k_i_i_kh lt_gi_i_k_k_i_i lt_gi_i_k_k_i_ih lt_gi_i_k_k_i_i_k lt_gi_i_k_k_i_i_kh lt_gi_i_k_i_i_i lt_gi_i_k_i_i_ih lt_gi_i_k_i_i_i_k lt_gi_i_k_i_i_i_kh lt_gi_i_k_k_i_i_i lt_gi_i_k_k_i_i_ih lt_gi_i_k_k_i_i_i_k lt_gi_i_k_k_i_i_i_kh lt_gi_i_i_k_i lt_gi_i_i_k_ih lt_gi_i_i_k_i_k lt_gi_i_i_k_i_kh lt_gi_i_i_k_k_i lt_gi_i_i_k_k_ih lt_gi_i_i_k_k_i_k lt_gi_i_i_k_k_i_kh lt_gi_i_i_k_i_i lt_gi_i_i_k_i_ih lt_gi_i_i_k_i_i_k lt_gi_i_i_k_i_i_kh lt_gi_i_i_k_k_i_i lt_gi_i_i_k_k_i_ih lt_gi_i_i_k_k_i_i_k lt_gi_i_i_k_k_i_i_kh lt_gi_i_i_k_i_i_i lt_gi_i_i_k_i_i_ih lt_gi_i_i_k_i_i_i_k lt_gi_i_i_k_i_i_i_kh lt_gi_i_i_k_k_i_i_i lt_gi_i_i_k_k_i_i_ih lt_gi_i_i_k_k_i_i_i_k lt_gi_i_i_k_k_i_i_i_kh lt_gi_i_i_i_k_i lt_gi_i_i_i_k_ih lt_gi_i_i_i_k_i_k lt_gi_i_i_i_k_i_kh lt_gi_i_i_i_k_k_i lt_gi_i_i_i_k_k_ih lt_gi_i_i_i_k_k_i_k lt_gi_i_i_i_k_k_i_kh lt_gi_i_i_i_k_i_i lt_gi_i_i_i_k_i_ih lt_gi_i_i_i_k_i_i_k lt_gi_i_i_i_k_i_i_kh lt_gi_i_i_i_k_k_i_i lt_gi_i_i_i_k_k_i_ih lt_gi_i_i_i_k_k_i_i_k lt_gi_i_i_i_k_k_i_i_kh lt_gi_i_i_i_k_i_i_i lt_gi_i_i_i_k_i_i_ih lt_gi_i_i_i_k_i_i_i_k lt_gi_i_i_i_k_i_i_i_kh lt_gi_i_i_i_k_k_i_i_i lt_gi_i_i_i_k_k_i_i_ih lt_gi_i_i_i_k_k_i_i_i_k lt_gi_i_i_i_k_k_i_i_i_kh lt_gi_i_i_i_i_k_i lt_gi_i_i_i_i_k_ih lt_gi_i_i_i_i_k_i_k lt_gi_i_i_i_i_k_i_kh lt_gi_i_i_i_i_k_k_i lt_gi_i_i_i_i_k_k_ih lt_gi_i_i_i_i_k_k_i_k lt_gi_i_i_i_i_k_k_i_kh lt_gi_i_i_i_i_k_i_i lt_gi_i_i_i_i_k_i_ih lt_gi_i_i_i_i_k_i_i_k lt_gi_i_i_i_i_k_i_i_kh lt_gi_i_i_i_i_k_k_i_i lt_gi_i_i_i_i_k_k_i_ih lt_gi_i_i_i_i_k_k_i_i_k lt_gi_i_i_i_i_k_k_i_i_kh lt_gi_i_i_i_i_k_i_i_i lt_gi_i_i_i_i_k_i_i_ih lt_gi_i_i_i_i_k_i_i_i_k lt_gi_i_i_i_i_k_i_i_i_kh lt_gi_i_i_i_i_k_k_i_i_i lt_gi_i_i_i_i_k_k_i_i_ih lt_gi_i_i_i_i_k_k_i_i_i_k lt_gi_i_i_i_i_k_k_i_i_i_kh
end Go.Proofs.Ytjmnnkhdadoehaa

/- What single calls do: rows of entries, by a function. -/
namespace Go.Proofs.Ytjmnnkhdadoehaa
set_option linter.unusedSimpArgs false
set_option linter.unusedVariables false
open Go.RowKit
attribute [local go_sem high] eql_25 neq_25 eql_24 neq_24 eql_27 neq_27 eql_41 neq_41 eql_29 neq_29 eql_43 neq_43 eql_108 neq_108 eql_61 neq_61 eql_90 neq_90 eql_64 neq_64 eql_104 neq_104 eql_67 neq_67 eql_71 neq_71
attribute [local go_sem ↓ high] yielded_undef
attribute [local go_sem] eqg_25 eqg_24 eqg_27 eqg_41 eqg_29 eqg_43 eqg_108 eqg_61 eqg_90 eqg_64 eqg_104 eqg_67 eqg_71 cell_grew frozen_grew size_grew grew_grew drewN_grew lt_addk size_setW Instr.field asAgg lt_gi_k lt_gi_kh lt_gi_k_k lt_gi_k_kh lt_gi_k_k_k lt_gi_k_k_kh lt_gi_i_k lt_gi_i_kh lt_gi_i_k_k lt_gi_i_k_kh lt_gi_i_k_k_k lt_gi_i_k_k_kh lt_gi_i_i_k lt_gi_i_i_kh lt_gi_i_i_k_k lt_gi_i_i_k_kh lt_gi_i_i_k_k_k lt_gi_i_i_k_k_kh lt_gi_i_i_i_k lt_gi_i_i_i_kh lt_gi_i_i_i_k_k lt_gi_i_i_i_k_kh lt_gi_i_i_i_k_k_k lt_gi_i_i_i_k_k_kh lt_gi_i_i_i_i_k lt_gi_i_i_i_i_kh lt_gi_i_i_i_i_k_k lt_gi_i_i_i_i_k_kh lt_gi_i_i_i_i_k_k_k lt_gi_i_i_i_i_k_k_kh lt_gi_i_i_i_i_i_k lt_gi_i_i_i_i_i_kh lt_gi_i_i_i_i_i_k_k lt_gi_i_i_i_i_i_k_kh lt_gi_i_i_i_i_i_k_k_k lt_gi_i_i_i_i_i_k_k_kh lt_gi_i_i_i_i_i_i_k lt_gi_i_i_i_i_i_i_kh lt_gi_i_i_i_i_i_i_k_k lt_gi_i_i_i_i_i_i_k_kh lt_gi_i_i_i_i_i_i_k_k_k lt_gi_i_i_i_i_i_i_k_k_kh lt_gi_i_i_i_i_i_i_i_k lt_gi_i_i_i_i_i_i_i_kh lt_gi_i_i_i_i_i_i_i_k_k lt_gi_i_i_i_i_i_i_i_k_kh lt_gi_i_i_i_i_i_i_i_k_k_k lt_gi_i_i_i_i_i_i_i_k_k_kh lt_gi_k_i lt_gi_k_ih lt_gi_k_i_k lt_gi_k_i_kh lt_gi_k_k_i lt_gi_k_k_ih lt_gi_k_k_i_k lt_gi_k_k_i_kh lt_gi_k_i_i lt_gi_k_i_ih lt_gi_k_i_i_k lt_gi_k_i_i_kh lt_gi_k_k_i_i lt_gi_k_k_i_ih lt_gi_k_k_i_i_k lt_gi_k_k_i_i_kh lt_gi_k_i_i_i lt_gi_k_i_i_ih lt_gi_k_i_i_i_k lt_gi_k_i_i_i_kh lt_gi_k_k_i_i_i lt_gi_k_k_i_i_ih lt_gi_k_k_i_i_i_k lt_gi_k_k_i_i_i_kh lt_gi_i_k_i lt_gi_i_k_ih lt_gi_i_k_i_k lt_gi_i_k_i_kh lt_gi_i_k_k_i lt_gi_i_k_k_ih lt_gi_i_k_k_i_k lt_gi_i_k_k_i_kh lt_gi_i_k_i_i lt_gi_i_k_i_ih lt_gi_i_k_i_i_k lt_gi_i_k_i_i_kh lt_gi_i_k_k_i_i lt_gi_i_k_k_i_ih lt_gi_i_k_k_i_i_k lt_gi_i_k_k_i_i_kh lt_gi_i_k_i_i_i lt_gi_i_k_i_i_ih lt_gi_i_k_i_i_i_k lt_gi_i_k_i_i_i_kh lt_gi_i_k_k_i_i_i lt_gi_i_k_k_i_i_ih lt_gi_i_k_k_i_i_i_k lt_gi_i_k_k_i_i_i_kh lt_gi_i_i_k_i lt_gi_i_i_k_ih lt_gi_i_i_k_i_k lt_gi_i_i_k_i_kh lt_gi_i_i_k_k_i lt_gi_i_i_k_k_ih lt_gi_i_i_k_k_i_k lt_gi_i_i_k_k_i_kh lt_gi_i_i_k_i_i lt_gi_i_i_k_i_ih lt_gi_i_i_k_i_i_k lt_gi_i_i_k_i_i_kh lt_gi_i_i_k_k_i_i lt_gi_i_i_k_k_i_ih lt_gi_i_i_k_k_i_i_k lt_gi_i_i_k_k_i_i_kh lt_gi_i_i_k_i_i_i lt_gi_i_i_k_i_i_ih lt_gi_i_i_k_i_i_i_k lt_gi_i_i_k_i_i_i_kh lt_gi_i_i_k_k_i_i_i lt_gi_i_i_k_k_i_i_ih lt_gi_i_i_k_k_i_i_i_k lt_gi_i_i_k_k_i_i_i_kh lt_gi_i_i_i_k_i lt_gi_i_i_i_k_ih lt_gi_i_i_i_k_i_k lt_gi_i_i_i_k_i_kh lt_gi_i_i_i_k_k_i lt_gi_i_i_i_k_k_ih lt_gi_i_i_i_k_k_i_k lt_gi_i_i_i_k_k_i_kh lt_gi_i_i_i_k_i_i lt_gi_i_i_i_k_i_ih lt_gi_i_i_i_k_i_i_k lt_gi_i_i_i_k_i_i_kh lt_gi_i_i_i_k_k_i_i lt_gi_i_i_i_k_k_i_ih lt_gi_i_i_i_k_k_i_i_k lt_gi_i_i_i_k_k_i_i_kh lt_gi_i_i_i_k_i_i_i lt_gi_i_i_i_k_i_i_ih lt_gi_i_i_i_k_i_i_i_k lt_gi_i_i_i_k_i_i_i_kh lt_gi_i_i_i_k_k_i_i_i lt_gi_i_i_i_k_k_i_i_ih lt_gi_i_i_i_k_k_i_i_i_k lt_gi_i_i_i_k_k_i_i_i_kh lt_gi_i_i_i_i_k_i lt_gi_i_i_i_i_k_ih lt_gi_i_i_i_i_k_i_k lt_gi_i_i_i_i_k_i_kh lt_gi_i_i_i_i_k_k_i lt_gi_i_i_i_i_k_k_ih lt_gi_i_i_i_i_k_k_i_k lt_gi_i_i_i_i_k_k_i_kh lt_gi_i_i_i_i_k_i_i lt_gi_i_i_i_i_k_i_ih lt_gi_i_i_i_i_k_i_i_k lt_gi_i_i_i_i_k_i_i_kh lt_gi_i_i_i_i_k_k_i_i lt_gi_i_i_i_i_k_k_i_ih lt_gi_i_i_i_i_k_k_i_i_k lt_gi_i_i_i_i_k_k_i_i_kh lt_gi_i_i_i_i_k_i_i_i lt_gi_i_i_i_i_k_i_i_ih lt_gi_i_i_i_i_k_i_i_i_k lt_gi_i_i_i_i_k_i_i_i_kh lt_gi_i_i_i_i_k_k_i_i_i lt_gi_i_i_i_i_k_k_i_i_ih lt_gi_i_i_i_i_k_k_i_i_i_k lt_gi_i_i_i_i_k_k_i_i_i_kh
set_option maxRecDepth 100000 in
set_option maxHeartbeats 4000000 in
theorem c_IndexFuncE (A : Option Addr) (c : Nat) (xs : List Ent) (g : Nat) (lb : Array Value) (p : Ent → Bool) (w : World) (hr : Reads encE 6 w A xs)
    (eg : ∀ args w, (callFunc g args).run Try.prog w = .ok (.enter g args) w)
    (hp : ∀ (W : World) (x : Ent), Below w.heap.size w W → Calls Try.prog g (#[.agg #[.int .u64 x.w.v.x, .int .u64 x.w.v.y, .int .u64 x.w.m.x, .int .u64 x.w.m.y, .int .i64 x.len, .int .i64 x.act]] ++ lb) W fun e w' => e = .returned (.bool (p x)) ∧ Below W.heap.size W w') :
    Calls Try.prog 105 #[.slice A xs.length c, .func (.func g) #[] lb] w fun e w' => e = .returned (.int .i64 (firstAt p xs)) ∧ Below w.heap.size w w' := by
  have hlen := hr.1
  go_enter Try.func105, Try.ntmps105
  go_wp2
  go_loopw [8] (fun v8 wr => ∃ k : Nat, k ≤ xs.length ∧ v8 = .int .i64 k ∧ Hid (∀ (i : Nat) (x : Ent), i < k → xs[i]? = some x → p x = false) ∧ ∃ q : Ext, wr = grew w q) (fun i _ => xs.length - (intOf i).toNat)
  case atStart => exact ⟨0, Nat.zero_le _, rfl, (fun i x hi => by omega), ⟨w.drawn, #[]⟩, by simp [grew]⟩
  case round =>
    obtain ⟨k, hk, rfl, H, q, rfl⟩ := hrel
    by_cases hlt : k < xs.length
    · obtain ⟨b, off, rfl, hb, h0, h1, h2, h3, h4, h5⟩ := hr.atE hlt
      have hq := hp (grew w q) xs[k] (grew_below w q)
      clear hp
      go_wp2_with fail
      refine hq.mono ?_
      rintro e w' ⟨rfl, hb'⟩
      obtain ⟨q', rfl⟩ := below_grew hb'
      clear hb' hq
      rw [grew_grew]
      cases hpx : p xs[k] with
      | true =>
        go_wp2
        refine bodyPost_ret (v := .int .i64 (firstAt p xs)) ?_ rfl ⟨rfl, ?_⟩
        · rw [firstAt_hit p xs k hlt H.out hpx]
          simp [results, Try.f105, go_sem]
        · repeat' (first | with_reducible exact Below.refl _ _ | with_reducible assumption | with_reducible apply below_grews | with_reducible apply Below.drew | with_reducible apply Below.alloc | with_reducible apply Below.setCell | (simp [size_grew, -Nat.not_le, -Nat.not_lt] <;> omega))
      | false =>
        have H2 := Lib.hid (none_step H.out hlt hpx)
        go_wp2
        go_roundw
        case rel => exact ⟨k + 1, by omega, by go_num, H2, _, rfl⟩
        case measure => first | (simp [intOf]; done) | (simp [intOf]; omega)
    · obtain rfl : k = xs.length := by omega
      go_wp2
      refine bodyPost_ret (v := .int .i64 (firstAt p xs)) ?_ rfl ⟨rfl, ?_⟩
      · rw [firstAt_none p xs (fun i x hx => H.out i x (List.getElem?_eq_some_iff.1 hx).1 hx)]
        simp [results, Try.f105, go_sem]
      · repeat' (first | with_reducible exact Below.refl _ _ | with_reducible assumption | with_reducible apply below_grews | with_reducible apply Below.drew | with_reducible apply Below.alloc | with_reducible apply Below.setCell | (simp [size_grew, -Nat.not_le, -Nat.not_lt] <;> omega))
set_option maxRecDepth 100000 in
set_option maxHeartbeats 4000000 in
theorem c_ContainsFuncE (A : Option Addr) (c : Nat) (xs : List Ent) (g : Nat) (lb : Array Value) (p : Ent → Bool) (w : World) (hr : Reads encE 6 w A xs)
    (eg : ∀ args w, (callFunc g args).run Try.prog w = .ok (.enter g args) w)
    (hp : ∀ (W : World) (x : Ent), Below w.heap.size w W → Calls Try.prog g (#[.agg #[.int .u64 x.w.v.x, .int .u64 x.w.v.y, .int .u64 x.w.m.x, .int .u64 x.w.m.y, .int .i64 x.len, .int .i64 x.act]] ++ lb) W fun e w' => e = .returned (.bool (p x)) ∧ Below W.heap.size W w') :
    Calls Try.prog 86 #[.slice A xs.length c, .func (.func g) #[] lb] w fun e w' => e = .returned (.bool (xs.any p)) ∧ Below w.heap.size w w' := by
  have hc := c_IndexFuncE A c xs g lb p w hr eg hp
  clear hp hr eg
  go_enter Try.func86, Try.ntmps86
  go_wp2_with fail
  refine hc.mono ?_
  rintro e w' ⟨rfl, hb⟩
  go_wp2
  refine bodyPost_ret (v := .bool (xs.any p)) ?_ rfl ⟨rfl, hb⟩
  rw [← firstAt_any]
  simp [results, Try.f86, go_sem]
set_option maxRecDepth 100000 in
set_option maxHeartbeats 4000000 in
theorem c_Ordered1 (x y0 : Ent) (b : Nat) (w : World) (hb : b < w.heap.size) (q0 : w.cell? ⟨b, 0, none⟩ = some (.int .u64 y0.w.v.x)) (q1 : w.cell? ⟨b, 1, none⟩ = some (.int .u64 y0.w.v.y)) (q2 : w.cell? ⟨b, 2, none⟩ = some (.int .u64 y0.w.m.x))
    (q3 : w.cell? ⟨b, 3, none⟩ = some (.int .u64 y0.w.m.y)) (q4 : w.cell? ⟨b, 4, none⟩ = some (.int .i64 y0.len)) (q5 : w.cell? ⟨b, 5, none⟩ = some (.int .i64 y0.act)) :
    Calls Try.prog 87 #[.agg #[.int .u64 x.w.v.x, .int .u64 x.w.v.y, .int .u64 x.w.m.x, .int .u64 x.w.m.y, .int .i64 x.len, .int .i64 x.act], .pointer (some ⟨b, 0, none⟩)] w fun e w' => e = .returned (.bool (eAbove y0 x)) ∧ Below w.heap.size w w' := by
  go_enter Try.func87, Try.ntmps87
  go_wp2_with (first | (go_at_call 83; refine (c_Above _ _ _ _ _ _ _ _ _ _ _ _ _).mono ?_; rintro e w' ⟨rfl, hb⟩; obtain ⟨p, rfl⟩ := below_grew hb; clear hb))
  refine bodyPost_ret (v := .bool (eAbove y0 x)) ?_ rfl ⟨rfl, ?_⟩
  · simp [results, Try.f87, go_sem]
  · repeat' (first | with_reducible exact Below.refl _ _ | with_reducible assumption | with_reducible apply below_grews | with_reducible apply Below.drew | with_reducible apply Below.alloc | with_reducible apply Below.setCell | (simp [size_grew, -Nat.not_le, -Nat.not_lt] <;> omega))
end Go.Proofs.Ytjmnnkhdadoehaa
