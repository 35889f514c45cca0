/- Merged texts of one claim: a Go law, its functions without memory, and the plain law. The law returns true for every input; conditions: as the row says. -/
import Derived.Test.YtcppmlgnceldmaaGreatDoorRows
import Derived.ChangeArms
import Derived.OpenShut
import Derived.SizedLaws
import Derived.Deep.Slices
import Derived.Below
import Derived.Lib.ItoaLen
import Derived.Handed
import Derived.HandedShaped
import Derived.LaidMore
import Derived.Test.YtcppmlgnceldmaaGreatDoorCards
import Derived.Test.YtcppmlgnceldmaaGreatDoorTie
import Derived.LaidHandle
import Derived.MakeChecks
import Derived.Shelf.Vars
import Derived.Lib.LaidTab
import Derived.SevenTiedAt
import Derived.WalkKit
import Derived.ProofKit
import Derived.ShutString
import Derived.ChangeOld
import Derived.Test.YtcppmlgnceldmaaGreatDoorCDi0
import Derived.Test.YtcppmlgnceldmaaGreatDoorCDi1
import Derived.Test.YtcppmlgnceldmaaGreatDoorCDi2
import Derived.Test.YtcppmlgnceldmaaGreatDoorCDi3
/- More fuel, no other answer: the functions. Printed by mono.py. -/
set_option linter.unusedVariables false
set_option maxRecDepth 100000
noncomputable section
namespace Go.Proofs.YtcppmlgnceldmaaGreatDoor.Di
open Go Go.Proofs.YtcppmlgnceldmaaGreatDoor.Gp
theorem two76.mono : ∀ a0_ a1_ a2_, Mono (fun k => two76 k a0_ a1_ a2_) := by
  intro a0_ a1_ a2_
  unfold two76
  repeat' (first | exact Mono.const _ | with_reducible refine Mono.cond ?_ ?_ | with_reducible refine Mono.orNil ?_ ?_ | with_reducible refine Mono.agree ?_ ?_ | with_reducible refine Mono.joined ?_ ?_ | with_reducible refine Mono.bind ?_ ?_ | with_reducible refine Mono.loop ?_ | with_reducible refine Mono.prod ?_ | intro _ | (dsimp only))

theorem one77.mono : ∀ a0_ a1_, Mono (fun k => one77 k a0_ a1_) := by
  intro a0_ a1_
  unfold one77
  repeat' (first | exact Mono.const _ | with_reducible refine Mono.cond ?_ ?_ | with_reducible refine Mono.orNil ?_ ?_ | with_reducible refine Mono.agree ?_ ?_ | with_reducible refine Mono.joined ?_ ?_ | with_reducible refine Mono.bind ?_ ?_ | with_reducible refine Mono.loop ?_ | with_reducible refine Mono.prod ?_ | intro _ | (dsimp only))

theorem zero119.mono : Mono (fun k => zero119 k) := by
  unfold zero119
  repeat' (first | exact Mono.const _ | with_reducible refine Mono.cond ?_ ?_ | with_reducible refine Mono.orNil ?_ ?_ | with_reducible refine Mono.agree ?_ ?_ | with_reducible refine Mono.joined ?_ ?_ | with_reducible refine Mono.bind ?_ ?_ | with_reducible refine Mono.loop ?_ | with_reducible refine Mono.prod ?_ | intro _ | (dsimp only))

theorem rd52.mono : ∀ a0_ a1_ a2_ a3_, Mono (fun k => rd52 k a0_ a1_ a2_ a3_) := by
  intro a0_ a1_ a2_ a3_
  unfold rd52
  repeat' (first | exact Mono.const _ | with_reducible refine Mono.cond ?_ ?_ | with_reducible refine Mono.orNil ?_ ?_ | with_reducible refine Mono.agree ?_ ?_ | with_reducible refine Mono.joined ?_ ?_ | with_reducible refine Mono.bind ?_ ?_ | with_reducible refine Mono.loop ?_ | with_reducible refine Mono.prod ?_ | intro _ | (dsimp only))

theorem no75.mono : ∀ a0_, Mono (fun k => no75 k a0_) := by
  intro a0_
  unfold no75
  repeat' (first | exact Mono.const _ | with_reducible refine Mono.cond ?_ ?_ | with_reducible refine Mono.orNil ?_ ?_ | with_reducible refine Mono.agree ?_ ?_ | with_reducible refine Mono.joined ?_ ?_ | with_reducible refine Mono.bind ?_ ?_ | with_reducible refine Mono.loop ?_ | with_reducible refine Mono.prod ?_ | intro _ | (dsimp only))

theorem rd52'.mono : ∀ a0_ a1_ a2_, Mono (fun k => rd52' k a0_ a1_ a2_) := by
  intro a0_ a1_ a2_
  unfold rd52'
  repeat' (first | exact Mono.const _ | with_reducible refine Mono.cond ?_ ?_ | with_reducible refine Mono.orNil ?_ ?_ | with_reducible refine Mono.agree ?_ ?_ | with_reducible refine Mono.joined ?_ ?_ | with_reducible refine Mono.bind ?_ ?_ | with_reducible refine Mono.loop ?_ | with_reducible refine Mono.prod ?_ | intro _ | (dsimp only))

theorem jump53.mono : ∀ a0_, Mono (fun k => jump53 k a0_) := by
  intro a0_
  unfold jump53
  repeat' (first | exact Mono.const _ | with_reducible exact two76.mono _ _ _ | with_reducible refine Mono.cond ?_ ?_ | with_reducible refine Mono.orNil ?_ ?_ | with_reducible refine Mono.agree ?_ ?_ | with_reducible refine Mono.joined ?_ ?_ | with_reducible refine Mono.bind ?_ ?_ | with_reducible refine Mono.loop ?_ | with_reducible refine Mono.prod ?_ | intro _ | (dsimp only))

theorem lead93.mono : ∀ a0_, Mono (fun k => lead93 k a0_) := by
  intro a0_
  unfold lead93
  repeat' (first | exact Mono.const _ | with_reducible exact two76.mono _ _ _ | with_reducible exact zero119.mono | with_reducible exact rd52.mono _ _ _ _ | with_reducible exact no75.mono _ | with_reducible exact rd52'.mono _ _ _ | with_reducible exact jump53.mono _ | with_reducible refine Mono.cond ?_ ?_ | with_reducible refine Mono.orNil ?_ ?_ | with_reducible refine Mono.agree ?_ ?_ | with_reducible refine Mono.joined ?_ ?_ | with_reducible refine Mono.bind ?_ ?_ | with_reducible refine Mono.loop ?_ | with_reducible refine Mono.prod ?_ | intro _ | (dsimp only))

theorem rd52''.mono : ∀ a0_ a1_ a2_, Mono (fun k => rd52'' k a0_ a1_ a2_) := by
  intro a0_ a1_ a2_
  unfold rd52''
  repeat' (first | exact Mono.const _ | with_reducible refine Mono.cond ?_ ?_ | with_reducible refine Mono.orNil ?_ ?_ | with_reducible refine Mono.agree ?_ ?_ | with_reducible refine Mono.joined ?_ ?_ | with_reducible refine Mono.bind ?_ ?_ | with_reducible refine Mono.loop ?_ | with_reducible refine Mono.prod ?_ | intro _ | (dsimp only))

theorem reads92.mono : ∀ a0_ a1_, Mono (fun k => reads92 k a0_ a1_) := by
  intro a0_ a1_
  unfold reads92
  repeat' (first | exact Mono.const _ | with_reducible exact lead93.mono _ | with_reducible exact rd52''.mono _ _ _ | with_reducible refine Mono.cond ?_ ?_ | with_reducible refine Mono.orNil ?_ ?_ | with_reducible refine Mono.agree ?_ ?_ | with_reducible refine Mono.joined ?_ ?_ | with_reducible refine Mono.bind ?_ ?_ | with_reducible refine Mono.loop ?_ | with_reducible refine Mono.prod ?_ | intro _ | (dsimp only))

theorem add74.mono : ∀ a0_ a1_ a2_ a3_ a4_ a5_, Mono (fun k => add74 k a0_ a1_ a2_ a3_ a4_ a5_) := by
  intro a0_ a1_ a2_ a3_ a4_ a5_
  unfold add74
  repeat' (first | exact Mono.const _ | with_reducible refine Mono.cond ?_ ?_ | with_reducible refine Mono.orNil ?_ ?_ | with_reducible refine Mono.agree ?_ ?_ | with_reducible refine Mono.joined ?_ ?_ | with_reducible refine Mono.bind ?_ ?_ | with_reducible refine Mono.loop ?_ | with_reducible refine Mono.prod ?_ | intro _ | (dsimp only))

theorem loads70.l0.mono : ∀ a0_ a1_ a2_, ∀ s, Mono (fun k => loads70.l0 k a0_ a1_ a2_ s) := by
  intro a0_ a1_ a2_
  unfold loads70.l0
  repeat' (first | exact Mono.const _ | with_reducible exact two76.mono _ _ _ | with_reducible exact one77.mono _ _ | with_reducible exact reads92.mono _ _ | with_reducible exact add74.mono _ _ _ _ _ _ | with_reducible refine Mono.cond ?_ ?_ | with_reducible refine Mono.orNil ?_ ?_ | with_reducible refine Mono.agree ?_ ?_ | with_reducible refine Mono.joined ?_ ?_ | with_reducible refine Mono.bind ?_ ?_ | with_reducible refine Mono.loop ?_ | with_reducible refine Mono.prod ?_ | intro _ | (dsimp only))

theorem loads70.mono : ∀ a0_ a1_ a2_ a3_ a4_ a5_, Mono (fun k => loads70 k a0_ a1_ a2_ a3_ a4_ a5_) := by
  intro a0_ a1_ a2_ a3_ a4_ a5_
  unfold loads70
  repeat' (first | exact Mono.const _ | with_reducible exact loads70.l0.mono _ _ _ | with_reducible refine Mono.cond ?_ ?_ | with_reducible refine Mono.orNil ?_ ?_ | with_reducible refine Mono.agree ?_ ?_ | with_reducible refine Mono.joined ?_ ?_ | with_reducible refine Mono.bind ?_ ?_ | with_reducible refine Mono.loop ?_ | with_reducible refine Mono.prod ?_ | intro _ | (dsimp only))

theorem wr78.mono : ∀ a0_ a1_ a2_, Mono (fun k => wr78 k a0_ a1_ a2_) := by
  intro a0_ a1_ a2_
  unfold wr78
  repeat' (first | exact Mono.const _ | with_reducible refine Mono.cond ?_ ?_ | with_reducible refine Mono.orNil ?_ ?_ | with_reducible refine Mono.agree ?_ ?_ | with_reducible refine Mono.joined ?_ ?_ | with_reducible refine Mono.bind ?_ ?_ | with_reducible refine Mono.loop ?_ | with_reducible refine Mono.prod ?_ | intro _ | (dsimp only))

theorem stores71.l0.mono : ∀ a0_ a1_ a2_, ∀ s, Mono (fun k => stores71.l0 k a0_ a1_ a2_ s) := by
  intro a0_ a1_ a2_
  unfold stores71.l0
  repeat' (first | exact Mono.const _ | with_reducible exact lead93.mono _ | with_reducible exact add74.mono _ _ _ _ _ _ | with_reducible exact wr78.mono _ _ _ | with_reducible refine Mono.cond ?_ ?_ | with_reducible refine Mono.orNil ?_ ?_ | with_reducible refine Mono.agree ?_ ?_ | with_reducible refine Mono.joined ?_ ?_ | with_reducible refine Mono.bind ?_ ?_ | with_reducible refine Mono.loop ?_ | with_reducible refine Mono.prod ?_ | intro _ | (dsimp only))

theorem stores71.mono : ∀ a0_ a1_ a2_ a3_ a4_ a5_, Mono (fun k => stores71 k a0_ a1_ a2_ a3_ a4_ a5_) := by
  intro a0_ a1_ a2_ a3_ a4_ a5_
  unfold stores71
  repeat' (first | exact Mono.const _ | with_reducible exact stores71.l0.mono _ _ _ | with_reducible refine Mono.cond ?_ ?_ | with_reducible refine Mono.orNil ?_ ?_ | with_reducible refine Mono.agree ?_ ?_ | with_reducible refine Mono.joined ?_ ?_ | with_reducible refine Mono.bind ?_ ?_ | with_reducible refine Mono.loop ?_ | with_reducible refine Mono.prod ?_ | intro _ | (dsimp only))

theorem joins72.l0.mono : ∀ a0_ a1_ a2_ a3_, ∀ s, Mono (fun k => joins72.l0 k a0_ a1_ a2_ a3_ s) := by
  intro a0_ a1_ a2_ a3_
  unfold joins72.l0
  repeat' (first | exact Mono.const _ | with_reducible exact two76.mono _ _ _ | with_reducible exact reads92.mono _ _ | with_reducible exact add74.mono _ _ _ _ _ _ | with_reducible refine Mono.cond ?_ ?_ | with_reducible refine Mono.orNil ?_ ?_ | with_reducible refine Mono.agree ?_ ?_ | with_reducible refine Mono.joined ?_ ?_ | with_reducible refine Mono.bind ?_ ?_ | with_reducible refine Mono.loop ?_ | with_reducible refine Mono.prod ?_ | intro _ | (dsimp only))

theorem joins72.mono : ∀ a0_ a1_ a2_ a3_ a4_ a5_ a6_, Mono (fun k => joins72 k a0_ a1_ a2_ a3_ a4_ a5_ a6_) := by
  intro a0_ a1_ a2_ a3_ a4_ a5_ a6_
  unfold joins72
  repeat' (first | exact Mono.const _ | with_reducible exact joins72.l0.mono _ _ _ _ | with_reducible refine Mono.cond ?_ ?_ | with_reducible refine Mono.orNil ?_ ?_ | with_reducible refine Mono.agree ?_ ?_ | with_reducible refine Mono.joined ?_ ?_ | with_reducible refine Mono.bind ?_ ?_ | with_reducible refine Mono.loop ?_ | with_reducible refine Mono.prod ?_ | intro _ | (dsimp only))

theorem turns73.l0.mono : ∀ a0_ a1_ a2_, ∀ s, Mono (fun k => turns73.l0 k a0_ a1_ a2_ s) := by
  intro a0_ a1_ a2_
  unfold turns73.l0
  repeat' (first | exact Mono.const _ | with_reducible exact one77.mono _ _ | with_reducible exact no75.mono _ | with_reducible exact lead93.mono _ | with_reducible exact rd52''.mono _ _ _ | with_reducible exact add74.mono _ _ _ _ _ _ | with_reducible exact wr78.mono _ _ _ | with_reducible refine Mono.cond ?_ ?_ | with_reducible refine Mono.orNil ?_ ?_ | with_reducible refine Mono.agree ?_ ?_ | with_reducible refine Mono.joined ?_ ?_ | with_reducible refine Mono.bind ?_ ?_ | with_reducible refine Mono.loop ?_ | with_reducible refine Mono.prod ?_ | intro _ | (dsimp only))

theorem turns73.mono : ∀ a0_ a1_ a2_ a3_ a4_ a5_, Mono (fun k => turns73 k a0_ a1_ a2_ a3_ a4_ a5_) := by
  intro a0_ a1_ a2_ a3_ a4_ a5_
  unfold turns73
  repeat' (first | exact Mono.const _ | with_reducible exact turns73.l0.mono _ _ _ | with_reducible refine Mono.cond ?_ ?_ | with_reducible refine Mono.orNil ?_ ?_ | with_reducible refine Mono.agree ?_ ?_ | with_reducible refine Mono.joined ?_ ?_ | with_reducible refine Mono.bind ?_ ?_ | with_reducible refine Mono.loop ?_ | with_reducible refine Mono.prod ?_ | intro _ | (dsimp only))

theorem memory49.l0.mono : ∀ s, Mono (fun k => memory49.l0 k s) := by
  unfold memory49.l0
  repeat' (first | exact Mono.const _ | with_reducible exact joins72.mono _ _ _ _ _ _ _ | with_reducible refine Mono.cond ?_ ?_ | with_reducible refine Mono.orNil ?_ ?_ | with_reducible refine Mono.agree ?_ ?_ | with_reducible refine Mono.joined ?_ ?_ | with_reducible refine Mono.bind ?_ ?_ | with_reducible refine Mono.loop ?_ | with_reducible refine Mono.prod ?_ | intro _ | (dsimp only))

theorem memory49.mono : ∀ a0_ a1_ a2_, Mono (fun k => memory49 k a0_ a1_ a2_) := by
  intro a0_ a1_ a2_
  unfold memory49
  repeat' (first | exact Mono.const _ | with_reducible exact loads70.mono _ _ _ _ _ _ | with_reducible exact stores71.mono _ _ _ _ _ _ | with_reducible exact joins72.mono _ _ _ _ _ _ _ | with_reducible exact turns73.mono _ _ _ _ _ _ | with_reducible exact memory49.l0.mono | with_reducible refine Mono.cond ?_ ?_ | with_reducible refine Mono.orNil ?_ ?_ | with_reducible refine Mono.agree ?_ ?_ | with_reducible refine Mono.joined ?_ ?_ | with_reducible refine Mono.bind ?_ ?_ | with_reducible refine Mono.loop ?_ | with_reducible refine Mono.prod ?_ | intro _ | (dsimp only))

theorem alone50.l0.mono : ∀ s, Mono (fun k => alone50.l0 k s) := by
  unfold alone50.l0
  repeat' (first | exact Mono.const _ | with_reducible exact two76.mono _ _ _ | with_reducible exact one77.mono _ _ | with_reducible exact no75.mono _ | with_reducible exact add74.mono _ _ _ _ _ _ | with_reducible refine Mono.cond ?_ ?_ | with_reducible refine Mono.orNil ?_ ?_ | with_reducible refine Mono.agree ?_ ?_ | with_reducible refine Mono.joined ?_ ?_ | with_reducible refine Mono.bind ?_ ?_ | with_reducible refine Mono.loop ?_ | with_reducible refine Mono.prod ?_ | intro _ | (dsimp only))

theorem alone50.mono : ∀ a0_ a1_ a2_, Mono (fun k => alone50 k a0_ a1_ a2_) := by
  intro a0_ a1_ a2_
  unfold alone50
  repeat' (first | exact Mono.const _ | with_reducible exact two76.mono _ _ _ | with_reducible exact one77.mono _ _ | with_reducible exact no75.mono _ | with_reducible exact rd52''.mono _ _ _ | with_reducible exact add74.mono _ _ _ _ _ _ | with_reducible exact wr78.mono _ _ _ | with_reducible exact alone50.l0.mono | with_reducible refine Mono.cond ?_ ?_ | with_reducible refine Mono.orNil ?_ ?_ | with_reducible refine Mono.agree ?_ ?_ | with_reducible refine Mono.joined ?_ ?_ | with_reducible refine Mono.bind ?_ ?_ | with_reducible refine Mono.loop ?_ | with_reducible refine Mono.prod ?_ | intro _ | (dsimp only))

theorem jump53'.mono : ∀ a0_, Mono (fun k => jump53' k a0_) := by
  intro a0_
  unfold jump53'
  repeat' (first | exact Mono.const _ | with_reducible exact two76.mono _ _ _ | with_reducible refine Mono.cond ?_ ?_ | with_reducible refine Mono.orNil ?_ ?_ | with_reducible refine Mono.agree ?_ ?_ | with_reducible refine Mono.joined ?_ ?_ | with_reducible refine Mono.bind ?_ ?_ | with_reducible refine Mono.loop ?_ | with_reducible refine Mono.prod ?_ | intro _ | (dsimp only))

theorem ways51.l0.mono : ∀ s, Mono (fun k => ways51.l0 k s) := by
  unfold ways51.l0
  repeat' (first | exact Mono.const _ | with_reducible exact two76.mono _ _ _ | with_reducible exact no75.mono _ | with_reducible exact rd52''.mono _ _ _ | with_reducible exact add74.mono _ _ _ _ _ _ | with_reducible refine Mono.cond ?_ ?_ | with_reducible refine Mono.orNil ?_ ?_ | with_reducible refine Mono.agree ?_ ?_ | with_reducible refine Mono.joined ?_ ?_ | with_reducible refine Mono.bind ?_ ?_ | with_reducible refine Mono.loop ?_ | with_reducible refine Mono.prod ?_ | intro _ | (dsimp only))

theorem ways51.mono : ∀ a0_ a1_ a2_, Mono (fun k => ways51 k a0_ a1_ a2_) := by
  intro a0_ a1_ a2_
  unfold ways51
  repeat' (first | exact Mono.const _ | with_reducible exact two76.mono _ _ _ | with_reducible exact rd52''.mono _ _ _ | with_reducible exact add74.mono _ _ _ _ _ _ | with_reducible exact wr78.mono _ _ _ | with_reducible exact jump53'.mono _ | with_reducible exact ways51.l0.mono | with_reducible refine Mono.cond ?_ ?_ | with_reducible refine Mono.orNil ?_ ?_ | with_reducible refine Mono.agree ?_ ?_ | with_reducible refine Mono.joined ?_ ?_ | with_reducible refine Mono.bind ?_ ?_ | with_reducible refine Mono.loop ?_ | with_reducible refine Mono.prod ?_ | intro _ | (dsimp only))

theorem answers54.mono : ∀ a0_ a1_, Mono (fun k => answers54 k a0_ a1_) := by
  intro a0_ a1_
  unfold answers54
  repeat' (first | exact Mono.const _ | with_reducible exact two76.mono _ _ _ | with_reducible exact no75.mono _ | with_reducible exact rd52''.mono _ _ _ | with_reducible exact wr78.mono _ _ _ | with_reducible exact jump53'.mono _ | with_reducible refine Mono.cond ?_ ?_ | with_reducible refine Mono.orNil ?_ ?_ | with_reducible refine Mono.agree ?_ ?_ | with_reducible refine Mono.joined ?_ ?_ | with_reducible refine Mono.bind ?_ ?_ | with_reducible refine Mono.loop ?_ | with_reducible refine Mono.prod ?_ | intro _ | (dsimp only))

theorem Cpu23.mono : Mono (fun k => Cpu23 k) := by
  unfold Cpu23
  repeat' (first | exact Mono.const _ | with_reducible exact jump53.mono _ | with_reducible exact rd52''.mono _ _ _ | with_reducible exact memory49.mono _ _ _ | with_reducible exact alone50.mono _ _ _ | with_reducible exact ways51.mono _ _ _ | with_reducible exact answers54.mono _ _ | with_reducible refine Mono.cond ?_ ?_ | with_reducible refine Mono.orNil ?_ ?_ | with_reducible refine Mono.agree ?_ ?_ | with_reducible refine Mono.joined ?_ ?_ | with_reducible refine Mono.bind ?_ ?_ | with_reducible refine Mono.loop ?_ | with_reducible refine Mono.prod ?_ | intro _ | (dsimp only))

theorem Find161.mono : ∀ a0_ a1_, Mono (fun k => Find161 k a0_ a1_) := by
  intro a0_ a1_
  unfold Find161
  repeat' (first | exact Mono.const _ | with_reducible refine Mono.cond ?_ ?_ | with_reducible refine Mono.orNil ?_ ?_ | with_reducible refine Mono.agree ?_ ?_ | with_reducible refine Mono.joined ?_ ?_ | with_reducible refine Mono.bind ?_ ?_ | with_reducible refine Mono.loop ?_ | with_reducible refine Mono.prod ?_ | intro _ | (dsimp only))

theorem IndexFunc56'.l0.mono : ∀ a0_, ∀ s, Mono (fun k => IndexFunc56'.l0 k a0_ s) := by
  intro a0_
  unfold IndexFunc56'.l0
  repeat' (first | exact Mono.const _ | with_reducible exact Find161.mono _ _ | with_reducible refine Mono.cond ?_ ?_ | with_reducible refine Mono.orNil ?_ ?_ | with_reducible refine Mono.agree ?_ ?_ | with_reducible refine Mono.joined ?_ ?_ | with_reducible refine Mono.bind ?_ ?_ | with_reducible refine Mono.loop ?_ | with_reducible refine Mono.prod ?_ | intro _ | (dsimp only))

theorem IndexFunc56'.mono : ∀ a0_ a1_, Mono (fun k => IndexFunc56' k a0_ a1_) := by
  intro a0_ a1_
  unfold IndexFunc56'
  repeat' (first | exact Mono.const _ | with_reducible exact IndexFunc56'.l0.mono _ | with_reducible refine Mono.cond ?_ ?_ | with_reducible refine Mono.orNil ?_ ?_ | with_reducible refine Mono.agree ?_ ?_ | with_reducible refine Mono.joined ?_ ?_ | with_reducible refine Mono.bind ?_ ?_ | with_reducible refine Mono.loop ?_ | with_reducible refine Mono.prod ?_ | intro _ | (dsimp only))

theorem Size26.mono : ∀ a0_, Mono (fun k => Size26 k a0_) := by
  intro a0_
  unfold Size26
  repeat' (first | exact Mono.const _ | with_reducible refine Mono.cond ?_ ?_ | with_reducible refine Mono.orNil ?_ ?_ | with_reducible refine Mono.agree ?_ ?_ | with_reducible refine Mono.joined ?_ ?_ | with_reducible refine Mono.bind ?_ ?_ | with_reducible refine Mono.loop ?_ | with_reducible refine Mono.prod ?_ | intro _ | (dsimp only))

theorem Name25.l0.mono : ∀ a0_, ∀ s, Mono (fun k => Name25.l0 k a0_ s) := by
  intro a0_
  unfold Name25.l0
  repeat' (first | exact Mono.const _ | with_reducible refine Mono.cond ?_ ?_ | with_reducible refine Mono.orNil ?_ ?_ | with_reducible refine Mono.agree ?_ ?_ | with_reducible refine Mono.joined ?_ ?_ | with_reducible refine Mono.bind ?_ ?_ | with_reducible refine Mono.loop ?_ | with_reducible refine Mono.prod ?_ | intro _ | (dsimp only))

theorem Name25.mono : ∀ a0_, Mono (fun k => Name25 k a0_) := by
  intro a0_
  unfold Name25
  repeat' (first | exact Mono.const _ | with_reducible exact Name25.l0.mono _ | with_reducible refine Mono.cond ?_ ?_ | with_reducible refine Mono.orNil ?_ ?_ | with_reducible refine Mono.agree ?_ ?_ | with_reducible refine Mono.joined ?_ ?_ | with_reducible refine Mono.bind ?_ ?_ | with_reducible refine Mono.loop ?_ | with_reducible refine Mono.prod ?_ | intro _ | (dsimp only))

theorem Check128.mono : ∀ a0_ a1_, Mono (fun k => Check128 k a0_ a1_) := by
  intro a0_ a1_
  unfold Check128
  repeat' (first | exact Mono.const _ | with_reducible refine Mono.cond ?_ ?_ | with_reducible refine Mono.orNil ?_ ?_ | with_reducible refine Mono.agree ?_ ?_ | with_reducible refine Mono.joined ?_ ?_ | with_reducible refine Mono.bind ?_ ?_ | with_reducible refine Mono.loop ?_ | with_reducible refine Mono.prod ?_ | intro _ | (dsimp only))

theorem IndexFunc56''.l0.mono : ∀ a0_, ∀ s, Mono (fun k => IndexFunc56''.l0 k a0_ s) := by
  intro a0_
  unfold IndexFunc56''.l0
  repeat' (first | exact Mono.const _ | with_reducible exact Check128.mono _ _ | with_reducible refine Mono.cond ?_ ?_ | with_reducible refine Mono.orNil ?_ ?_ | with_reducible refine Mono.agree ?_ ?_ | with_reducible refine Mono.joined ?_ ?_ | with_reducible refine Mono.bind ?_ ?_ | with_reducible refine Mono.loop ?_ | with_reducible refine Mono.prod ?_ | intro _ | (dsimp only))

theorem IndexFunc56''.mono : ∀ a0_ a1_, Mono (fun k => IndexFunc56'' k a0_ a1_) := by
  intro a0_ a1_
  unfold IndexFunc56''
  repeat' (first | exact Mono.const _ | with_reducible exact IndexFunc56''.l0.mono _ | with_reducible refine Mono.cond ?_ ?_ | with_reducible refine Mono.orNil ?_ ?_ | with_reducible refine Mono.agree ?_ ?_ | with_reducible refine Mono.joined ?_ ?_ | with_reducible refine Mono.bind ?_ ?_ | with_reducible refine Mono.loop ?_ | with_reducible refine Mono.prod ?_ | intro _ | (dsimp only))

theorem ContainsFunc27.mono : ∀ a0_ a1_, Mono (fun k => ContainsFunc27 k a0_ a1_) := by
  intro a0_ a1_
  unfold ContainsFunc27
  repeat' (first | exact Mono.const _ | with_reducible exact IndexFunc56''.mono _ _ | with_reducible refine Mono.cond ?_ ?_ | with_reducible refine Mono.orNil ?_ ?_ | with_reducible refine Mono.agree ?_ ?_ | with_reducible refine Mono.joined ?_ ?_ | with_reducible refine Mono.bind ?_ ?_ | with_reducible refine Mono.loop ?_ | with_reducible refine Mono.prod ?_ | intro _ | (dsimp only))

theorem register80.mono : ∀ a0_, Mono (fun k => register80 k a0_) := by
  intro a0_
  unfold register80
  repeat' (first | exact Mono.const _ | with_reducible refine Mono.cond ?_ ?_ | with_reducible refine Mono.orNil ?_ ?_ | with_reducible refine Mono.agree ?_ ?_ | with_reducible refine Mono.joined ?_ ?_ | with_reducible refine Mono.bind ?_ ?_ | with_reducible refine Mono.loop ?_ | with_reducible refine Mono.prod ?_ | intro _ | (dsimp only))

theorem Wide81.mono : ∀ a0_, Mono (fun k => Wide81 k a0_) := by
  intro a0_
  unfold Wide81
  repeat' (first | exact Mono.const _ | with_reducible refine Mono.cond ?_ ?_ | with_reducible refine Mono.orNil ?_ ?_ | with_reducible refine Mono.agree ?_ ?_ | with_reducible refine Mono.joined ?_ ?_ | with_reducible refine Mono.bind ?_ ?_ | with_reducible refine Mono.loop ?_ | with_reducible refine Mono.prod ?_ | intro _ | (dsimp only))

theorem uses94.mono : ∀ a0_, Mono (fun k => uses94 k a0_) := by
  intro a0_
  unfold uses94
  repeat' (first | exact Mono.const _ | with_reducible refine Mono.cond ?_ ?_ | with_reducible refine Mono.orNil ?_ ?_ | with_reducible refine Mono.agree ?_ ?_ | with_reducible refine Mono.joined ?_ ?_ | with_reducible refine Mono.bind ?_ ?_ | with_reducible refine Mono.loop ?_ | with_reducible refine Mono.prod ?_ | intro _ | (dsimp only))

theorem fits95.mono : ∀ a0_ a1_, Mono (fun k => fits95 k a0_ a1_) := by
  intro a0_ a1_
  unfold fits95
  repeat' (first | exact Mono.const _ | with_reducible exact register80.mono _ | with_reducible exact Wide81.mono _ | with_reducible refine Mono.cond ?_ ?_ | with_reducible refine Mono.orNil ?_ ?_ | with_reducible refine Mono.agree ?_ ?_ | with_reducible refine Mono.joined ?_ ?_ | with_reducible refine Mono.bind ?_ ?_ | with_reducible refine Mono.loop ?_ | with_reducible refine Mono.prod ?_ | intro _ | (dsimp only))

theorem step82.mono : ∀ a0_, Mono (fun k => step82 k a0_) := by
  intro a0_
  unfold step82
  repeat' (first | exact Mono.const _ | with_reducible exact register80.mono _ | with_reducible exact Wide81.mono _ | with_reducible exact uses94.mono _ | with_reducible exact fits95.mono _ _ | with_reducible refine Mono.cond ?_ ?_ | with_reducible refine Mono.orNil ?_ ?_ | with_reducible refine Mono.agree ?_ ?_ | with_reducible refine Mono.joined ?_ ?_ | with_reducible refine Mono.bind ?_ ?_ | with_reducible refine Mono.loop ?_ | with_reducible refine Mono.prod ?_ | intro _ | (dsimp only))

theorem cycle57.l0.mono : ∀ a0_, ∀ s, Mono (fun k => cycle57.l0 k a0_ s) := by
  intro a0_
  unfold cycle57.l0
  repeat' (first | exact Mono.const _ | with_reducible exact step82.mono _ | with_reducible refine Mono.cond ?_ ?_ | with_reducible refine Mono.orNil ?_ ?_ | with_reducible refine Mono.agree ?_ ?_ | with_reducible refine Mono.joined ?_ ?_ | with_reducible refine Mono.bind ?_ ?_ | with_reducible refine Mono.loop ?_ | with_reducible refine Mono.prod ?_ | intro _ | (dsimp only))

theorem cycle57.mono : ∀ a0_, Mono (fun k => cycle57 k a0_) := by
  intro a0_
  unfold cycle57
  repeat' (first | exact Mono.const _ | with_reducible exact register80.mono _ | with_reducible exact Wide81.mono _ | with_reducible exact cycle57.l0.mono _ | with_reducible refine Mono.cond ?_ ?_ | with_reducible refine Mono.orNil ?_ ?_ | with_reducible refine Mono.agree ?_ ?_ | with_reducible refine Mono.joined ?_ ?_ | with_reducible refine Mono.bind ?_ ?_ | with_reducible refine Mono.loop ?_ | with_reducible refine Mono.prod ?_ | intro _ | (dsimp only))

theorem cycles29.l0.mono : ∀ a0_, ∀ s, Mono (fun k => cycles29.l0 k a0_ s) := by
  intro a0_
  unfold cycles29.l0
  repeat' (first | exact Mono.const _ | with_reducible exact cycle57.mono _ | with_reducible refine Mono.cond ?_ ?_ | with_reducible refine Mono.orNil ?_ ?_ | with_reducible refine Mono.agree ?_ ?_ | with_reducible refine Mono.joined ?_ ?_ | with_reducible refine Mono.bind ?_ ?_ | with_reducible refine Mono.loop ?_ | with_reducible refine Mono.prod ?_ | intro _ | (dsimp only))

theorem cycles29.mono : ∀ a0_, Mono (fun k => cycles29 k a0_) := by
  intro a0_
  unfold cycles29
  repeat' (first | exact Mono.const _ | with_reducible exact cycles29.l0.mono _ | with_reducible refine Mono.cond ?_ ?_ | with_reducible refine Mono.orNil ?_ ?_ | with_reducible refine Mono.agree ?_ ?_ | with_reducible refine Mono.joined ?_ ?_ | with_reducible refine Mono.bind ?_ ?_ | with_reducible refine Mono.loop ?_ | with_reducible refine Mono.prod ?_ | intro _ | (dsimp only))

theorem operand30.l0.mono : ∀ a0_, ∀ s, Mono (fun k => operand30.l0 k a0_ s) := by
  intro a0_
  unfold operand30.l0
  repeat' (first | exact Mono.const _ | with_reducible refine Mono.cond ?_ ?_ | with_reducible refine Mono.orNil ?_ ?_ | with_reducible refine Mono.agree ?_ ?_ | with_reducible refine Mono.joined ?_ ?_ | with_reducible refine Mono.bind ?_ ?_ | with_reducible refine Mono.loop ?_ | with_reducible refine Mono.prod ?_ | intro _ | (dsimp only))

theorem operand30.mono : ∀ a0_, Mono (fun k => operand30 k a0_) := by
  intro a0_
  unfold operand30
  repeat' (first | exact Mono.const _ | with_reducible exact operand30.l0.mono _ | with_reducible refine Mono.cond ?_ ?_ | with_reducible refine Mono.orNil ?_ ?_ | with_reducible refine Mono.agree ?_ ?_ | with_reducible refine Mono.joined ?_ ?_ | with_reducible refine Mono.bind ?_ ?_ | with_reducible refine Mono.loop ?_ | with_reducible refine Mono.prod ?_ | intro _ | (dsimp only))

theorem Check6.l0.mono : ∀ a0_, ∀ s, Mono (fun k => Check6.l0 k a0_ s) := by
  intro a0_
  unfold Check6.l0
  repeat' (first | exact Mono.const _ | with_reducible exact Size26.mono _ | with_reducible exact Name25.mono _ | with_reducible exact ContainsFunc27.mono _ _ | with_reducible exact cycles29.mono _ | with_reducible exact operand30.mono _ | with_reducible refine Mono.cond ?_ ?_ | with_reducible refine Mono.orNil ?_ ?_ | with_reducible refine Mono.agree ?_ ?_ | with_reducible refine Mono.joined ?_ ?_ | with_reducible refine Mono.bind ?_ ?_ | with_reducible refine Mono.loop ?_ | with_reducible refine Mono.prod ?_ | intro _ | (dsimp only))

theorem Check6.l1.mono : ∀ a0_, ∀ s, Mono (fun k => Check6.l1 k a0_ s) := by
  intro a0_
  unfold Check6.l1
  repeat' (first | exact Mono.const _ | with_reducible exact cycles29.mono _ | with_reducible refine Mono.cond ?_ ?_ | with_reducible refine Mono.orNil ?_ ?_ | with_reducible refine Mono.agree ?_ ?_ | with_reducible refine Mono.joined ?_ ?_ | with_reducible refine Mono.bind ?_ ?_ | with_reducible refine Mono.loop ?_ | with_reducible refine Mono.prod ?_ | intro _ | (dsimp only))

theorem Check6.mono : ∀ a0_, Mono (fun k => Check6 k a0_) := by
  intro a0_
  unfold Check6
  repeat' (first | exact Mono.const _ | with_reducible exact Name25.mono _ | with_reducible exact Check6.l0.mono _ | with_reducible exact Check6.l1.mono _ | with_reducible refine Mono.cond ?_ ?_ | with_reducible refine Mono.orNil ?_ ?_ | with_reducible refine Mono.agree ?_ ?_ | with_reducible refine Mono.joined ?_ ?_ | with_reducible refine Mono.bind ?_ ?_ | with_reducible refine Mono.loop ?_ | with_reducible refine Mono.prod ?_ | intro _ | (dsimp only))

end Go.Proofs.YtcppmlgnceldmaaGreatDoor.Di

/- What an argument of a law reads as, kind by kind. -/
set_option linter.unusedVariables false
noncomputable section
namespace Go.Proofs.YtcppmlgnceldmaaGreatDoor.Gp
open Go Go.ChangeShapes Go.WideShapes Go.RowKit

/-- the input's memory, all of it frozen -/
def memH (W : World) : Hp := fun b => W.heap[b]?

structure Gd (P : Program) (t : TypeId) (k : K) (wf : k.den → Prop) (siz : k.den → Nat) : Prop where
  cells : P.cellsOf t = k.w
  one : k.one = true
  pur : k.pur = true
  val : ∀ {W : World} {r : Reach} {base : Nat} {v : Value}, Value.okWide P W r base t v → v = k.mk v.cells.toList
  read : ∀ {H : Type} {enc : TypeId × Value → H} {W : World} {base : Nat} {spare : Nat → Bool} {held : Bool} {fuel : Nat} {cs : List Value} {x : DataW H × List MemPlace},
    DataW.trod enc P W base spare held fuel t cs = some x → (∀ n ∈ x.1.weights P t, n ≤ reachBytes) → ∃ y, (∀ L, Lv (memH W) L k y cs) ∧ wf y ∧ siz y ≤ Rows.uptoBulk x.1

variable {P : Program}

theorem str_len {s : ByteArray} : s.data.toList.length = s.size := Array.length_toList
theorem gd_int {t : TypeId} {k : IntKind} (hu : P.underlying t = some (.int k)) (hc : P.cellsOf t = 1) : Gd P t (.int k) (fun (y : Int) => (Lit.int k y).wf = true) (fun _ => 1) :=
  ⟨hc, rfl, rfl, fun h => by obtain ⟨n, rfl⟩ := okWide_int hu h; rfl, fun h _ => by
    obtain ⟨n, rfl, rfl, hw⟩ := DataW.trod_int hu h
    exact ⟨n, fun _ => rfl, hw, by simp [Rows.uptoBulk]⟩⟩
theorem gd_str {t : TypeId} (hu : P.underlying t = some .string) (hc : P.cellsOf t = 1) : Gd P t .str (fun (y : ByteArray) => y.size ≤ 140737488351232) (fun (y : ByteArray) => y.size + 1) :=
  ⟨hc, rfl, rfl, fun h => by
    simp only [Value.okWide, hu, Cell.okWide] at h
    rename_i v
    cases v <;> first | rfl | (simp_all [Cell.ok]; done), fun h hw => by
    obtain ⟨s, rfl, rfl, _⟩ := DataW.trod_string hu h
    refine ⟨s, fun _ => rfl, ?_, ?_⟩
    · have := hw s.data.toList.length (by simp [DataW.weights])
      rw [str_len] at this
      exact this
    · simp only [Rows.uptoBulk]
      rw [str_len]
      omega⟩

theorem weights_all {H : Type} {e : TypeId} {n : Nat} : ∀ {l : List (DataW H)} {d : DataW H}, d ∈ l → n ∈ d.weights P e → n ∈ DataW.weightsAll P e l
  | x :: r, d, hd, hn => by
    rw [DataW.weightsAll]
    rcases List.mem_cons.1 hd with rfl | hd
    · exact List.mem_append_left _ hn
    · exact List.mem_append_right _ (weights_all hd hn)
theorem buildL {α : Type} {H : Type} {wf : α → Prop} {siz : α → Nat} : ∀ (es : List (DataW H × List MemPlace)) (p : Nat → α → Prop),
    (∀ i x, es[i]? = some x → ∃ y, p i y ∧ wf y ∧ siz y ≤ Rows.uptoBulk x.1) →
    ∃ ys : List α, ys.length = es.length ∧ (∀ j y, ys[j]? = some y → p j y ∧ wf y) ∧ (ys.map siz).sum ≤ Rows.uptoBulkAll (es.map (·.1))
  | [], _, _ => ⟨[], rfl, fun j y h => by simp at h, by simp⟩
  | x :: r, p, h => by
    obtain ⟨y, hp, hw, hs⟩ := h 0 x rfl
    obtain ⟨ys, hl, hy, hsum⟩ := buildL r (fun i => p (i + 1)) (fun i x hx => h (i + 1) x (by simpa using hx))
    refine ⟨y :: ys, by simp [hl], fun j z hz => ?_, ?_⟩
    · cases j with
      | zero => simp only [List.getElem?_cons_zero, Option.some.injEq] at hz; subst hz; exact ⟨hp, hw⟩
      | succ j => exact hy j z (by simpa using hz)
    · simp only [List.map_cons, List.sum_cons, Rows.uptoBulkAll]
      omega

def sizL {α : Type} (siz : α → Nat) (l : List α) : Nat := (l.map siz).sum + 1
def wfL {α : Type} (B : Nat) (wf : α → Prop) (l : List α) : Prop := l.length * B ≤ 140737488351232 ∧ ∀ y ∈ l, wf y

theorem LvL_mk {α : Type} {R : α → List Value → Prop} {w : Nat} {C : List Value} : ∀ {ys : List α} {o : Nat}, (∀ j y, ys[j]? = some y → ∃ c : List Value, c.length = w ∧ R y c ∧ ∀ i u, c[i]? = some u → C[o + (j * w + i)]? = some u) →
    LvL R ys ((C.drop o).take (ys.length * w))
  | [], o, h => by simp [LvL]
  | y :: ys, o, h => by
    obtain ⟨c, hc, hr, hu⟩ := h 0 y rfl
    have e : (C.drop o).take w = c := by
      apply List.ext_getElem?
      intro i
      rw [cut_get]
      by_cases hi : i < w
      · rw [if_pos hi]
        have hi' : i < c.length := by omega
        have := hu i c[i] (List.getElem?_eq_getElem hi')
        rw [Nat.zero_mul, Nat.zero_add] at this
        rw [this, List.getElem?_eq_getElem hi']
      · rw [if_neg hi, List.getElem?_eq_none (by omega)]
    refine ⟨c, (C.drop (o + w)).take (ys.length * w), ?_, hr, LvL_mk (fun j z hz => ?_)⟩
    · rw [List.length_cons, Nat.add_mul, Nat.one_mul, Nat.add_comm (ys.length * w) w, List.take_add, e, List.drop_drop]
    · obtain ⟨c', h1, h2, h3⟩ := h (j + 1) z hz
      refine ⟨c', h1, h2, fun i u hi => ?_⟩
      have := h3 i u hi
      rw [Nat.add_mul, Nat.one_mul] at this
      rw [show o + w + (j * w + i) = o + (j * w + w + i) by omega]
      exact this

theorem gd_sl {t e : TypeId} {k : K} {wf : k.den → Prop} {siz : k.den → Nat} {B : Nat} (hu : P.underlying t = some (.slice e)) (hc : P.cellsOf t = 1) (hB : P.bytesOf e = B) (hk : 0 < k.w) (r : Gd P e k wf siz) :
    Gd P t (.sl k) (wfL (α := k.den) B wf) (sizL (α := k.den) siz) :=
  ⟨hc, rfl, r.pur, fun h => by obtain ⟨a, len, cap, rfl⟩ := okWide_slice hu h; rfl, fun {H enc W base spare held fuel cs x} h hw => by
    rcases DataW.trod_slice hu h with ⟨rfl, rfl⟩ | ⟨a, len, cap, elems, rest, n, _, rfl, rfl, hb, hl, hm, hlen, hel, _, _⟩
    · exact ⟨([] : List k.den), fun L => ⟨r.pur, none, 0, rfl, Nat.le_refl _, fun hn => absurd rfl hn⟩, ⟨by simp, fun y hy => by simp at hy⟩, by simp [sizL, Rows.uptoBulk]⟩
    · simp only [DataW.weights, hu] at hw
      have hw1 : (elems.length + rest.length) * B ≤ 140737488351232 := by
        have := hw ((elems.length + rest.length) * B) (by simp [hB])
        exact this
      obtain ⟨ys, hyl, hyp, hys⟩ := buildL (wf := wf) (siz := siz) elems (fun i y => ∃ c : List Value, c.length = k.w ∧ (∀ L, Lv (memH W) L k y c) ∧ ∀ j u, c[j]? = some u → W.cell? (a.add (i * k.w + j)) = some u) (fun i z hz => by
        have hi : i < len := by
          have := (List.getElem?_eq_some_iff.1 hz).1
          omega
        have h1 := hel i hi
        rw [hz] at h1
        obtain ⟨c, hc1, hc2⟩ := Option.bind_eq_some_iff.1 h1
        obtain ⟨y, hK, hwf, hsz⟩ := r.read hc2 (fun q hq => hw q (List.mem_cons_of_mem _ (List.mem_append_left _ (weights_all (List.mem_map.2 ⟨z, List.mem_of_getElem? hz, rfl⟩) hq))))
        obtain ⟨_, hcl, hcell⟩ := World.cells?_some hc1
        refine ⟨y, ⟨c, Lv_len (hK default), hK, fun j u hu => ?_⟩, hwf, hsz⟩
        have hj : j < P.cellsOf e := by
          have := (List.getElem?_eq_some_iff.1 hu).1
          omega
        have h3 := hcell j hj
        rw [Go.Deep.add_add, r.cells] at h3
        rw [h3]
        exact hu)
      refine ⟨ys, fun L => ⟨r.pur, some a, cap, by rw [hyl, hlen], by omega, fun hn => ?_⟩, ⟨?_, fun y hy => ?_⟩, ?_⟩
      · have hn : ys.length ≠ 0 := hn
        obtain ⟨y, hy⟩ : ∃ y, ys[0]? = some y := ⟨ys[0]'(by omega), List.getElem?_eq_getElem (by omega)⟩
        obtain ⟨c, c1, c2, c3⟩ := (hyp 0 y hy).1
        obtain ⟨u, hu0⟩ : ∃ u, c[0]? = some u := ⟨c[0]'(by omega), List.getElem?_eq_getElem (by omega)⟩
        have hcell := c3 0 u hu0
        rw [Nat.zero_mul, Nat.zero_add, show a.add 0 = a from rfl] at hcell
        unfold World.cell? at hcell
        split at hcell
        · rename_i C ee zz hblk
          split at hcell
          · cases hcell
          · rename_i hsp
            have hsp : a.spot = none := by cases hs : a.spot with | none => rfl | some q => rw [hs] at hsp; exact absurd rfl hsp
            refine ⟨a.block, a.off, C, ee, zz, by cases a; simp only at hsp; rw [hsp], hblk, LvL_mk (C := C.toList) (fun j y hy => ?_)⟩
            obtain ⟨c, c1, c2, c3⟩ := (hyp j y hy).1
            refine ⟨c, c1, c2 L, fun i u hi => ?_⟩
            have h5 := c3 i u hi
            have hadd : (a.add (j * k.w + i)).block = a.block ∧ (a.add (j * k.w + i)).off = a.off + (j * k.w + i) ∧ (a.add (j * k.w + i)).spot = none := by
              unfold Addr.add
              split
              · rename_i h0; exact ⟨rfl, by omega, hsp⟩
              · exact ⟨rfl, rfl, rfl⟩
            unfold World.cell? at h5
            rw [hadd.1, hblk, hadd.2.1, hadd.2.2] at h5
            rw [Array.getElem?_toList]
            exact h5
        · cases hcell
      · rw [hyl]
        exact Nat.le_trans (Nat.mul_le_mul_right _ (Nat.le_add_right _ _)) hw1
      · obtain ⟨j, hj⟩ := List.mem_iff_getElem?.1 hy
        exact (hyp j y hj).2
      · simp only [sizL, Rows.uptoBulk]
        omega⟩

/-- fields in line, from cell 'off' on -/
structure GdF (P : Program) (off : Nat) (fs : List Field) (k : K) (wf : k.den → Prop) (siz : k.den → Nat) : Prop where
  pur : k.pur = true
  read : ∀ {H : Type} {enc : TypeId × Value → H} {W : World} {base : Nat} {spare : Nat → Bool} {held : Bool} {fuel : Nat} {cs : List Value} {xs : List (DataW H × List MemPlace)},
    cs.length = off + k.w → xs.length = fs.length →
    (∀ (i : Nat) (f : Field), fs[i]? = some f → DataW.trod enc P W base spare held fuel f.type ((cs.drop f.offset).take (P.cellsOf f.type)) = xs[i]?) →
    (∀ n ∈ DataW.weightsEach P (fs.map (·.type)) (xs.map (·.1)), n ≤ reachBytes) →
    ∃ y, (∀ L, Lv (memH W) L k y (cs.drop off)) ∧ wf y ∧ siz y ≤ Rows.uptoBulkAll (xs.map (·.1))

theorem gdf_cons {off : Nat} {f : Field} {fs : List Field} {k k' : K} {wf : k.den → Prop} {wf' : k'.den → Prop} {siz : k.den → Nat} {siz' : k'.den → Nat} (ho : f.offset = off) (r : Gd P f.type k wf siz)
    (rs : GdF P (off + k.w) fs k' wf' siz') : GdF P off (f :: fs) (.pair k k') (fun (y : k.den × k'.den) => wf y.1 ∧ wf' y.2) (fun (y : k.den × k'.den) => siz y.1 + siz' y.2) := by
  refine ⟨by simp only [K.pur, r.pur, rs.pur]; rfl, ?_⟩
  intro H enc W base spare held fuel cs xs hl hxl hx hw
  have hl' : cs.length = off + (k.w + k'.w) := hl
  match xs, hxl with
  | x :: xs, hxl =>
    have h := hx 0 f rfl
    rw [ho, r.cells] at h
    simp only [List.getElem?_cons_zero] at h
    obtain ⟨y, h1, h2, h3⟩ := r.read h (fun n hn => hw n (by simp [DataW.weightsEach, hn]))
    obtain ⟨z, g1, g2, g3⟩ := rs.read (enc := enc) (W := W) (base := base) (spare := spare) (held := held) (fuel := fuel) (cs := cs) (xs := xs) (by omega) (by simpa using hxl)
      (fun i g hg => by simpa using hx (i + 1) g (by simpa using hg)) (fun n hn => hw n (by simp only [List.map_cons, DataW.weightsEach]; exact List.mem_append_right _ hn))
    refine ⟨(y, z), fun L => ⟨(cs.drop off).take k.w, cs.drop (off + k.w), ?_, h1 L, g1 L⟩, ⟨h2, g2⟩, ?_⟩
    · rw [← List.drop_drop]
      exact (List.take_append_drop _ _).symm
    · simp only [List.map_cons, Rows.uptoBulkAll]
      omega
theorem gdf_one {off : Nat} {f : Field} {k : K} {wf : k.den → Prop} {siz : k.den → Nat} (ho : f.offset = off) (r : Gd P f.type k wf siz) : GdF P off [f] k wf siz := by
  refine ⟨r.pur, ?_⟩
  intro H enc W base spare held fuel cs xs hl hxl hx hw
  match xs, hxl with
  | [x], hxl =>
    have h := hx 0 f rfl
    rw [ho, r.cells] at h
    simp only [List.getElem?_cons_zero] at h
    have e : (cs.drop off).take k.w = cs.drop off := List.take_of_length_le (by rw [List.length_drop, hl]; omega)
    rw [e] at h
    obtain ⟨y, h1, h2, h3⟩ := r.read h (fun n hn => hw n (by simp [DataW.weightsEach, hn]))
    refine ⟨y, h1, h2, ?_⟩
    simp only [List.map_cons, List.map_nil, Rows.uptoBulkAll]
    omega
theorem gd_st {t : TypeId} {fs : Array Field} {k : K} {wf : k.den → Prop} {siz : k.den → Nat} (hu : P.underlying t = some (.struct fs)) (hc : P.cellsOf t = k.w) (r : GdF P 0 fs.toList k wf siz) : Gd P t (.st k) wf siz :=
  ⟨hc, rfl, r.pur, fun h => by
    simp only [Value.okWide, hu] at h
    obtain ⟨cs, rfl, _⟩ := h
    rfl, fun h hw => by
    obtain ⟨xs, n, _, rfl, hl, hxl, hx⟩ := DataW.trod_struct hu h
    obtain ⟨y, h1, h2, h3⟩ := r.read (by rw [hl, hc]; omega) (by rw [hxl]; simp) (fun i f hf => hx i f (by simpa using hf)) (fun n hn => hw n (by simp only [DataW.weights, hu]; exact hn))
    refine ⟨y, h1, h2, ?_⟩
    simp only [Rows.uptoBulk]
    omega⟩

/-- an argument -/
theorem Gd.arg {t : TypeId} {k : K} {wf : k.den → Prop} {siz : k.den → Nat} (r : Gd P t k wf siz) {H : Type} {enc : TypeId × Value → H} {W : World} {base : Nat} {spare : Nat → Bool} {held : Bool} {rr : Reach} {b2 : Nat} {v : Value} {x : DataW H} {ps : List MemPlace}
    (hval : Value.okWide P W rr b2 t v) (h : DataW.Trod enc P W base spare held t v x ps) (hw : ∀ n ∈ x.weights P t, n ≤ reachBytes) : ∃ y : k.den, (∀ L, SR (memH W) L ⟨k, y⟩ v) ∧ wf y ∧ siz y ≤ Rows.uptoBulk x := by
  obtain ⟨fuel, hf⟩ := h
  obtain ⟨y, h1, h2, h3⟩ := r.read hf hw
  refine ⟨y, fun L => ?_, h2, h3⟩
  rw [r.val hval]
  exact SR_mk (h1 L)

def noLoc : Ls := fun _ => default
theorem law_calls {fuel : Nat} {f : FuncId} {params : List K} {run : Nat → HL params → HL (List.map (·.toK) ([] : List OK)) → Option (K.bool.den × HL (List.map (·.toK) ([] : List OK)))} (hs : SoundAt P fuel ⟨f, params, [], .bool, [], [], run⟩) {ds : HL params}
    (hr : run fuel ds () = some (true, ())) {args : Array Value} {W : World} (hv : SRs (memH W) noLoc (unpackL params ds) args.toList) (hg : GH (memH W) := by exact GH.none _) : Calls P f args W (fun e W' => e = .returned (.bool true) ∧ Below W.heap.size W W') := by
  have hno : ∀ b, ¬ Own (assoc O.dead (objsFrom 0 ([] : List OK) ())) noLoc b := fun b ⟨i, hi, _⟩ => hi
  refine Calls.mono (hs.2 ds () (true, ()) hr args W (memH W) noLoc hv ⟨fun i => trivial, fun b o h => h, fun i hi => hi.elim, fun i j hi => hi.elim, hg⟩ (fun i hi => by cases hi)) fun e W' hh => ?_
  obtain ⟨v, H', L', rfl, h1, _, _, hp⟩ := hh
  have h1 : SR H' L' ⟨.bool, true⟩ v := h1
  refine ⟨by rw [bool_at h1], hp.fr.os, hp.fr.tape, hp.fr.output, hp.fr.size, fun b hb => hp.fr.same b hb (hno b)⟩
/-- The weights of one argument. -/
theorem weights_at {H : Type} {ts : List TypeId} {ds : List (DataW H)} (hsz : (DataW.weightsEach P ts ds).all (· ≤ reachBytes) = true) (j : Nat) {t : TypeId} {d : DataW H} (ht : ts[j]? = some t) (hd : ds[j]? = some d) :
    ∀ n ∈ d.weights P t, n ≤ reachBytes := fun n hn => by
  have := List.all_eq_true.1 hsz n (DataW.weights_mem_each ht hd n hn)
  simpa using this

end Go.Proofs.YtcppmlgnceldmaaGreatDoor.Gp

/- The museum's processor, and what a row reads. No program in sight. -/
set_option linter.unusedVariables false
set_option maxRecDepth 100000
noncomputable section
namespace Go.Proofs.YtcppmlgnceldmaaGreatDoor.Di
open Go Go.Proofs.YtcppmlgnceldmaaGreatDoor.Gp

theorem Ev.one {α : Type} {f : Nat → Option α} {v w : α} (h : Ev f v) (h2 : Ev f w) : v = w := by
  obtain ⟨n, h⟩ := h
  obtain ⟨m, h2⟩ := h2
  have a := h (max n m) (by omega)
  rw [h2 (max n m) (by omega)] at a
  exact (Option.some.inj a).symm
def cpuV : Cpu := match Cpu23 20 with | some v => v.1 | none => (ByteArray.mk #[], [], [], [], [])
def isS {α : Type} (o : Option α) : Bool := match o with | some _ => true | none => false
theorem isS_some {α : Type} {o : Option α} (h : isS o = true) : ∃ v, o = some v := by
  cases o with
  | none => cases h
  | some v => exact ⟨v, rfl⟩
theorem cpu_isS : isS (Cpu23 20) = true := by kernel_rfl
theorem cpu_ev : Ev (fun k => Cpu23 k) (cpuV, ()) := by
  obtain ⟨v, hv⟩ := isS_some cpu_isS
  have e : cpuV = v.1 := by unfold cpuV; rw [hv]
  rw [e]
  exact Mono.ev Cpu23.mono hv
def wcycB (l : List Cyc) : Bool := Nat.ble (l.length * 48) 140737488351232 && l.all (fun y => Nat.ble (y.2.2.2.length * 32) 140737488351232)
def wcB (c : Cpu) : Bool := Nat.ble (c.2.1.length * 56) 140737488351232 && c.2.1.all (fun x => wcycB x.2.2.2) && wcycB c.2.2.1 && wcycB c.2.2.2.1 && wcycB c.2.2.2.2
theorem wcyc_of {l : List Cyc} (h : wcycB l = true) : Wcyc l := by
  unfold wcycB at h
  simp only [Bool.and_eq_true] at h
  exact ⟨Nat.le_of_ble_eq_true h.1, fun y hy => Nat.le_of_ble_eq_true (List.all_eq_true.1 h.2 y hy)⟩
theorem wc_of {c : Cpu} (h : wcB c = true) : Wc c := by
  unfold wcB at h
  simp only [Bool.and_eq_true] at h
  exact ⟨Nat.le_of_ble_eq_true h.1.1.1.1, fun x hx => wcyc_of (List.all_eq_true.1 h.1.1.1.2 x hx), wcyc_of h.1.1.2, wcyc_of h.1.2, wcyc_of h.2⟩
theorem cpu_wcB : wcB cpuV = true := by kernel_rfl
theorem cpu_wc : Wc cpuV := wc_of cpu_wcB
-- instructions by their names
def isN (name : ByteArray) (mode : Int) (x : Ins) : Bool := cond (streq x.2.1 name) (x.2.2.1 == mode) false
theorem nidx_lp {c : Cpu} (hc : Wc c) (name : ByteArray) (mode : Int) : ∀ (suf pre : List Ins), c.2.1 = pre ++ suf → ∃ r, Lp (fun k => IndexFunc56.l0 k c.2.1) ((name, mode, ()), (pre.length : Int)) r ∧
    (match suf.find? (isN name mode) with | none => r = .inl () | some x => ∃ j : Nat, r = .inr ((j : Int), ()) ∧ c.2.1[j]? = some x) := by
  have hl := hc.len
  intro suf
  induction suf with
  | nil =>
    intro pre h
    rw [List.append_nil] at h
    refine ⟨.inl (), .done ?_, rfl⟩
    simp only [IndexFunc56.l0]
    exact .no (decide_eq_false (by rw [h]; omega)) (.now _)
  | cons x suf ih =>
    intro pre h
    have hx : c.2.1[pre.length]? = some x := by rw [h]; simp
    have hlt := get_lt hx
    cases hp : isN name mode x with
    | true =>
      refine ⟨.inr ((pre.length : Int), ()), .done ?_, ?_⟩
      · simp only [IndexFunc56.l0]
        refine .yes (decide_eq_true (by omega)) (.val (rd_some' hx) (.bind (a := (true, ())) (.const ?_) (.yes rfl (.now _))))
        show some (isN name mode x, ()) = _
        rw [hp]
      · rw [List.find?_cons_of_pos (by exact hp)]
        exact ⟨pre.length, rfl, hx⟩
    | false =>
      obtain ⟨r, h1, h2⟩ := ih (pre ++ [x]) (by rw [h]; simp)
      refine ⟨r, .step ?_ h1, ?_⟩
      · simp only [IndexFunc56.l0]
        refine .yes (decide_eq_true (by omega)) (.val (rd_some' hx) (.bind (a := (false, ())) (.const ?_) (.no rfl (.now' ?_))))
        · show some (isN name mode x, ()) = _
          rw [hp]
        · rw [w64_succ (by omega)]; simp
      · rw [List.find?_cons_of_neg (by rw [hp]; decide)]
        exact h2
def namedR (c : Cpu) (name : ByteArray) (mode : Int) : Ins × Bool × Unit := match c.2.1.find? (isN name mode) with | some x => (x, true, ()) | none => (none4, false, ())
theorem named_ev {c : Cpu} (hc : Wc c) (name : ByteArray) (mode : Int) : Ev (fun k => Named55 k c name mode) (namedR c name mode, ()) := by
  unfold Named55 IndexFunc56
  obtain ⟨r, h1, h2⟩ := nidx_lp hc name mode c.2.1 [] rfl
  unfold namedR
  cases hf : c.2.1.find? (isN name mode) with
  | none =>
    rw [hf] at h2
    subst h2
    exact .bind (.joinL (S := Unit) h1.ev (.now _)) (.yes rfl (.now _))
  | some x =>
    rw [hf] at h2
    obtain ⟨j, rfl, hj⟩ := h2
    exact .bind (.joinR h1.ev) (.no (decide_eq_false (by show ¬ (j : Int) < 0; omega)) (.val (rd_some' hj) (.bind (copy_ev x (hc.ins x (get_mem hj))) (.now _))))
theorem wrap8 (x : Int) : 0 ≤ IntKind.wrap .u8 x ∧ IntKind.wrap .u8 x < 256 := by
  have e2 : (2 : Int) ^ 8 = 256 := by decide
  simp only [IntKind.wrap, IntKind.signed, IntKind.bits, Bool.false_and, e2]
  constructor
  · simp; omega
  · simp; omega
def nopB : List Int := [IntKind.wrap .u8 (namedR cpuV (ByteArray.mk #[110, 111, 112]) 0).1.1, IntKind.wrap .u8 (namedR cpuV (ByteArray.mk #[106, 109, 112]) 4).1.1, 0, 2]
theorem nop_ev : Ev (fun k => nop24 k) ((512, nopB, []), ()) := by
  unfold nop24
  exact .bind cpu_ev (.bind (named_ev cpu_wc _ _) (.bind cpu_ev (.bind (named_ev cpu_wc _ _) (.now _))))
theorem lit8 {k : Int} (h : (Lit.int .u8 k).wf = true) : 0 ≤ k ∧ k < 256 := by
  simp [Lit.wf, IntKind.min, IntKind.max, IntKind.signed, IntKind.bits] at h
  omega
abbrev WfCpu (c : Cpu) : Prop := (c.1.size ≤ 140737488351232) ∧ wfL (α := Ins) 56 (fun x => (Lit.int .i64 x.1).wf = true ∧ x.2.1.size ≤ 140737488351232 ∧ (Lit.int .i64 x.2.2.1).wf = true ∧ wfL (α := Cyc) 48 (fun y => (Lit.int .i64 y.1).wf = true ∧ (Lit.int .i64 y.2.1).wf = true ∧ (Lit.int .i64 y.2.2.1).wf = true ∧ wfL (α := Stp4) 32 (fun z => (Lit.int .i64 z.1).wf = true ∧ (Lit.int .i64 z.2.1).wf = true ∧ (Lit.int .i64 z.2.2.1).wf = true ∧ (Lit.int .i64 z.2.2.2).wf = true) y.2.2.2) x.2.2.2) c.2.1 ∧
    wfL (α := Cyc) 48 (fun y => (Lit.int .i64 y.1).wf = true ∧ (Lit.int .i64 y.2.1).wf = true ∧ (Lit.int .i64 y.2.2.1).wf = true ∧ wfL (α := Stp4) 32 (fun z => (Lit.int .i64 z.1).wf = true ∧ (Lit.int .i64 z.2.1).wf = true ∧ (Lit.int .i64 z.2.2.1).wf = true ∧ (Lit.int .i64 z.2.2.2).wf = true) y.2.2.2) c.2.2.1 ∧
    wfL (α := Cyc) 48 (fun y => (Lit.int .i64 y.1).wf = true ∧ (Lit.int .i64 y.2.1).wf = true ∧ (Lit.int .i64 y.2.2.1).wf = true ∧ wfL (α := Stp4) 32 (fun z => (Lit.int .i64 z.1).wf = true ∧ (Lit.int .i64 z.2.1).wf = true ∧ (Lit.int .i64 z.2.2.1).wf = true ∧ (Lit.int .i64 z.2.2.2).wf = true) y.2.2.2) c.2.2.2.1 ∧
    wfL (α := Cyc) 48 (fun y => (Lit.int .i64 y.1).wf = true ∧ (Lit.int .i64 y.2.1).wf = true ∧ (Lit.int .i64 y.2.2.1).wf = true ∧ wfL (α := Stp4) 32 (fun z => (Lit.int .i64 z.1).wf = true ∧ (Lit.int .i64 z.2.1).wf = true ∧ (Lit.int .i64 z.2.2.1).wf = true ∧ (Lit.int .i64 z.2.2.2).wf = true) y.2.2.2) c.2.2.2.2
theorem wc_row {c : Cpu} (h : WfCpu c) : Wc c ∧ Wn c := by
  obtain ⟨h1, h2, h3, h4, h5⟩ := h
  exact ⟨⟨h2.1, fun x hx => ⟨(h2.2 x hx).2.2.2.1, fun y hy => ((h2.2 x hx).2.2.2.2 y hy).2.2.2.1⟩, ⟨h3.1, fun y hy => (h3.2 y hy).2.2.2.1⟩, ⟨h4.1, fun y hy => (h4.2 y hy).2.2.2.1⟩, ⟨h5.1, fun y hy => (h5.2 y hy).2.2.2.1⟩⟩, h1, fun x hx => (h2.2 x hx).2.1⟩
def wnB (c : Cpu) : Bool := Nat.ble c.1.size 140737488351232 && c.2.1.all (fun x => Nat.ble x.2.1.size 140737488351232)
theorem wn_of {c : Cpu} (h : wnB c = true) : Wn c := by
  unfold wnB at h
  rw [Bool.and_eq_true, List.all_eq_true] at h
  exact ⟨Nat.le_of_ble_eq_true h.1, fun x hx => Nat.le_of_ble_eq_true (h.2 x hx)⟩
theorem cpu_wn : Wn cpuV := wn_of (by kernel_rfl)
def sizeV (m : Int) : Nat := ([0, 1, 1, 1, 2, 2, 2, 1, 1] : List Nat).getD m.toNat 0
theorem size_ev {m : Int} (h : 0 ≤ m ∧ m ≤ 8) : Ev (fun k => Size26 k m) ((sizeV m : Int), ()) := by
  have : m = 0 ∨ m = 1 ∨ m = 2 ∨ m = 3 ∨ m = 4 ∨ m = 5 ∨ m = 6 ∨ m = 7 ∨ m = 8 := by omega
  rcases this with rfl | rfl | rfl | rfl | rfl | rfl | rfl | rfl | rfl <;> exact .const rfl
theorem sizeV_le (m : Int) : sizeV m ≤ 2 := by
  unfold sizeV
  rw [List.getD_eq_getElem?_getD]
  cases h : ([0, 1, 1, 1, 2, 2, 2, 1, 1] : List Nat)[m.toNat]? with
  | none => decide
  | some x =>
    have := get_mem h
    simp only [List.mem_cons, List.not_mem_nil, or_false] at this
    show x ≤ 2
    omega
theorem size_rd {m : Int} (h : 0 ≤ m ∧ m ≤ 8) : rd ([0, 1, 1, 1, 2, 2, 2, 1, 1] : List Int) m = some (sizeV m : Int) := by
  have : m = 0 ∨ m = 1 ∨ m = 2 ∨ m = 3 ∨ m = 4 ∨ m = 5 ∨ m = 6 ∨ m = 7 ∨ m = 8 := by omega
  rcases this with rfl | rfl | rfl | rfl | rfl | rfl | rfl | rfl | rfl <;> rfl
theorem Ev.agr {α : Type} {f g : Nat → Option α} {v : α} (h1 : Ev f v) (h2 : Ev g v) : Ev (fun k => agree (f k) (g k)) v := by
  obtain ⟨a, h1⟩ := h1
  obtain ⟨b, h2⟩ := h2
  refine ⟨max a b, fun k hk => ?_⟩
  show agree (f k) (g k) = some v
  rw [h1 k (by omega), h2 k (by omega)]
  exact agree_self _
theorem findI_mem {c : Cpu} {op : Int} {x : Ins} (h : findI c op = some x) : x ∈ c.2.1 := List.mem_of_find?_eq_some h
end Go.Proofs.YtcppmlgnceldmaaGreatDoor.Di

/- One instruction as text: both ways. No program in sight. -/
set_option linter.unusedVariables false
set_option maxRecDepth 100000
noncomputable section
namespace Go.Proofs.YtcppmlgnceldmaaGreatDoor.Di
open Go Go.Proofs.YtcppmlgnceldmaaGreatDoor.Gp

def sgn (n : Nat) : Int := if n ≥ 128 then (n : Int) - 256 else n
theorem signed_ev {n : Nat} (h : n < 256) : Ev (fun k => Signed68 k (n : Int) 8) (sgn n, ()) := by
  unfold Signed68 sgn
  have e8 : (n : Int) % 256 = (n : Int) := by omega
  refine .val (a := (8, ())) rfl (.bind (low8_ev _) (.bind (a := decide (n ≥ 128)) (.yes rfl (.val (a := ((n / 128 : Nat) : Int)) ?_ (.now' ?_))) ?_))
  · show some (shrI .i64 ((n : Int) % 256) 7) = _
    rw [e8]
    exact congrArg some (shrI_nat (j := 7) (by decide))
  · by_cases h1 : n ≥ 128
    · rw [decide_eq_true h1, show n / 128 = 1 by omega]; rfl
    · rw [decide_eq_false h1, show n / 128 = 0 by omega]; rfl
  · by_cases h1 : n ≥ 128
    · rw [if_pos h1]
      refine .bind (a := (n : Int) - 256) (.yes (decide_eq_true h1) (.val (a := 256) rfl (.now' ?_))) (.now _)
      show w64 ((n : Int) % 256 - 256) = _
      rw [e8, w64_id (by omega) (by omega)]
    · rw [if_neg h1]
      refine .bind (a := (n : Int)) (.no (decide_eq_false h1) (.now' ?_)) (.now _)
      exact e8
theorem with_lp {c : Cpu} (hc : Wc c) (op : Int) (o0 : Int × ByteArray × Int × Unit) : ∀ (suf pre : List Ins), c.2.1 = pre ++ suf → Gp.Lp (fun k => with41.l0 k c op) ((), (pre.length : Int), o0) (match suf.find? (fun x => x.1 == op) with | some x => .inr ((x, true, ()), ()) | none => .inl ((), o0)) := by
  have hl := hc.len
  intro suf
  induction suf with
  | nil =>
    intro pre h
    rw [List.append_nil] at h
    refine .done ?_
    simp only [with41.l0]
    exact .no (by rw [h]; simp) (.now _)
  | cons x suf ih =>
    intro pre h
    have hx : c.2.1[pre.length]? = some x := by rw [h]; simp
    have hi := get_lt hx
    cases he : x.1 == op with
    | true =>
      rw [List.find?_cons_of_pos (by exact he)]
      refine .done ?_
      simp only [with41.l0]
      exact .yes (decide_eq_true (by omega)) (.val (rd_some' hx) (.yes he (.now _)))
    | false =>
      rw [List.find?_cons_of_neg (by rw [he]; decide)]
      have := ih (pre ++ [x]) (by rw [h]; simp)
      rw [List.length_append, List.length_singleton] at this
      refine .step ?_ this
      simp only [with41.l0]
      refine .yes (decide_eq_true (by omega)) (.val (rd_some' hx) (.no he (.now' ?_)))
      rw [w64_succ (by omega)]
theorem with_ev {c : Cpu} (hc : Wc c) (op : Int) : Ev (fun k => with41 k c op) (findR c op, ()) := by
  have := with_lp hc op (0, ByteArray.mk #[], 0, ()) c.2.1 [] rfl
  unfold with41 findR findI
  cases h : c.2.1.find? (fun x => x.1 == op) with
  | none =>
    rw [h] at this
    exact .joinL (S := Unit) this.ev (.now _)
  | some x =>
    rw [h] at this
    exact .joinR this.ev

def mkB (l : List UInt8) : ByteArray := ⟨l.toArray⟩
theorem mkB_app (a b : List UInt8) : mkB a ++ mkB b = mkB (a ++ b) := by
  apply ByteArray.ext
  rw [ByteArray.data_append]
  simp [mkB]
theorem mkB_size (a : List UInt8) : (mkB a).size = a.length := by simp [mkB, ByteArray.size]
theorem cat_ok {a b : ByteArray} (h : a.size + b.size ≤ 9223372036854775807) : catS a b = some (a ++ b) := by
  unfold catS
  have e : IntKind.i64.max = 9223372036854775807 := by decide
  rw [e]
  exact if_neg (by omega)
theorem cat_mk {a b : List UInt8} (h : a.length + b.length ≤ 1000000) : catS (mkB a) (mkB b) = some (mkB (a ++ b)) := by
  rw [cat_ok (by rw [mkB_size, mkB_size]; omega), mkB_app]
theorem itoa_ev {n : Int} (h : -9223372036854775808 ≤ n ∧ n ≤ 9223372036854775807) : Ev (fun k => Itoa36 k n) (mkB (Lib.itoa n), ()) := by
  refine .const ?_
  unfold itoaF
  rw [if_pos h]; rfl
theorem itoa_len {n : Int} (h : -9223372036854775808 ≤ n ∧ n ≤ 9223372036854775807) : (Lib.itoa n).length ≤ 21 := Lib.itoa_length_le n h.1 h.2
theorem repl_l {s : List UInt8} {i : Nat} (new : List UInt8) (h1 : Lib.index s [63] = i) (h2 : Lib.count s [63] = 1) (h3 : s.drop i = 63 :: s.drop (i + 1)) : Lib.replace s [63] new 1 = s.take i ++ new ++ s.drop (i + 1) := by
  unfold Lib.replace
  by_cases he : ([63] == new) = true
  · rw [if_pos he]
    have : new = [63] := (beq_iff_eq.1 he).symm
    rw [this, List.append_assoc]
    conv => lhs; rw [← List.take_append_drop i s, h3]
    rfl
  · rw [if_neg he]
    have : Lib.replaceNum s [63] 1 = 1 := by
      unfold Lib.replaceNum
      rw [h2]; rfl
    rw [this, Lib.replaceK_hit _ _ _ _ i h1]
    rfl
theorem repl_ev {s : List UInt8} {i : Nat} {new : List UInt8} (hs : s.length ≤ 100) (hn : new.length ≤ 100) (h1 : Lib.index s [63] = i) (h2 : Lib.count s [63] = 1) (h3 : s.drop i = 63 :: s.drop (i + 1)) :
    Ev (fun k => Replace59 k (mkB s) (mkB [63]) (mkB new) 1) (mkB (s.take i ++ new ++ s.drop (i + 1)), ()) := by
  refine .const ?_
  unfold replF
  have e1 : (mkB s).size = s.length := mkB_size s
  have e2 : (mkB [63]).size = 1 := mkB_size _
  have e3 : (mkB new).size = new.length := mkB_size _
  have e4 : Lib.countB (mkB s) (mkB [63]) = 1 := h2
  show Option.map _ (if (mkB s).size < 4294967281 ∧ 1 ≤ (mkB [63]).size ∧ (mkB s).size + Lib.countB (mkB s) (mkB [63]) * (mkB new).size ≤ 140737488355328 then _ else none) = _
  rw [e1, e2, e3, e4, if_pos ⟨by omega, by omega, by omega⟩]
  show some (mkB (Lib.replace s [63] new 1), ()) = _
  rw [repl_l new h1 h2 h3]
theorem repl_no {new : List UInt8} (hn : new.length ≤ 100) : Ev (fun k => Replace59 k (mkB []) (mkB [63]) (mkB new) 1) (mkB [], ()) := by
  refine .const ?_
  unfold replF
  have e3 : (mkB new).size = new.length := mkB_size _
  have e4 : Lib.countB (mkB []) (mkB [63]) = 0 := rfl
  have e1 : (mkB []).size = 0 := rfl
  have e2 : (mkB [63]).size = 1 := rfl
  show Option.map _ (if (mkB []).size < 4294967281 ∧ 1 ≤ (mkB [63]).size ∧ (mkB []).size + Lib.countB (mkB []) (mkB [63]) * (mkB new).size ≤ 140737488355328 then _ else none) = _
  rw [e1, e2, e3, e4, if_pos ⟨by omega, by omega, by omega⟩]
  show some (mkB (Lib.replace [] [63] new 1), ()) = _
  unfold Lib.replace
  split <;> rfl
def opdL (m : Nat) (t : List UInt8) : List UInt8 :=
  match m with
  | 0 => []
  | 1 => [32, 35] ++ t
  | 2 => [32, 42] ++ t
  | 3 => [32, 42] ++ t ++ [44, 120]
  | 4 => [32] ++ t
  | 5 => [32] ++ t ++ [44, 120]
  | 6 => [32] ++ t ++ [44, 121]
  | 7 => [32, 64] ++ t
  | 8 => [32, 40] ++ t ++ [41, 44, 121]
  | _ => []
theorem opdL_len {m : Nat} {t : List UInt8} (h : t.length ≤ 21) : (opdL m t).length ≤ 30 := by
  unfold opdL
  split <;> simp <;> omega
def formL (m : Nat) : List UInt8 :=
  match m with
  | 0 => []
  | 1 => [32, 35, 63]
  | 2 => [32, 42, 63]
  | 3 => [32, 42, 63, 44, 120]
  | 4 => [32, 63]
  | 5 => [32, 63, 44, 120]
  | 6 => [32, 63, 44, 121]
  | 7 => [32, 64, 63]
  | 8 => [32, 40, 63, 41, 44, 121]
  | _ => []
theorem form_ev {m : Nat} (hm : m ≤ 8) {t : List UInt8} (ht : t.length ≤ 21) : Ev (fun k => Replace59 k (mkB (formL m)) (mkB [63]) (mkB t) 1) (mkB (opdL m t), ()) := by
  have ht2 : t.length ≤ 100 := by omega
  match m, hm with
  | 0, _ => exact repl_no ht2
  | 1, _ => exact repl_ev (s := [32, 35, 63]) (i := 2) (by decide) ht2 (by decide) (by decide) rfl |>.to (by simp [opdL])
  | 2, _ => exact repl_ev (s := [32, 42, 63]) (i := 2) (by decide) ht2 (by decide) (by decide) rfl |>.to (by simp [opdL])
  | 3, _ => exact repl_ev (s := [32, 42, 63, 44, 120]) (i := 2) (by decide) ht2 (by decide) (by decide) rfl |>.to (by simp [opdL])
  | 4, _ => exact repl_ev (s := [32, 63]) (i := 1) (by decide) ht2 (by decide) (by decide) rfl |>.to (by simp [opdL])
  | 5, _ => exact repl_ev (s := [32, 63, 44, 120]) (i := 1) (by decide) ht2 (by decide) (by decide) rfl |>.to (by simp [opdL])
  | 6, _ => exact repl_ev (s := [32, 63, 44, 121]) (i := 1) (by decide) ht2 (by decide) (by decide) rfl |>.to (by simp [opdL])
  | 7, _ => exact repl_ev (s := [32, 64, 63]) (i := 2) (by decide) ht2 (by decide) (by decide) rfl |>.to (by simp [opdL])
  | 8, _ => exact repl_ev (s := [32, 40, 63, 41, 44, 121]) (i := 2) (by decide) ht2 (by decide) (by decide) rfl |>.to (by simp [opdL])
theorem byte_repl {t : List UInt8} (ht : t.length ≤ 21) : Ev (fun k => Replace59 k (mkB [98, 121, 116, 101, 32, 63]) (mkB [63]) (mkB t) 1) (mkB ([98, 121, 116, 101, 32] ++ t), ()) :=
  (repl_ev (s := [98, 121, 116, 101, 32, 63]) (i := 5) (by decide) (by omega) (by decide) (by decide) rfl).to (by simp)
theorem form_rd {m : Nat} (hm : m ≤ 8) : rd ([(ByteArray.mk #[]), (ByteArray.mk #[32, 35, 63]), (ByteArray.mk #[32, 42, 63]), (ByteArray.mk #[32, 42, 63, 44, 120]), (ByteArray.mk #[32, 63]), (ByteArray.mk #[32, 63, 44, 120]), (ByteArray.mk #[32, 63, 44, 121]), (ByteArray.mk #[32, 64, 63]), (ByteArray.mk #[32, 40, 63, 41, 44, 121])] : List ByteArray) (m : Int) = some (mkB (formL m)) := by
  match m, hm with
  | 0, _ => rfl
  | 1, _ => rfl
  | 2, _ => rfl
  | 3, _ => rfl
  | 4, _ => rfl
  | 5, _ => rfl
  | 6, _ => rfl
  | 7, _ => rfl
  | 8, _ => rfl
/-- what the operand's text tells -/
def argA (m : Nat) (v addr : Int) : Int := if m = 7 then (addr + 2 + sgn v.toNat) % 65536 else v
theorem sgn_in {n : Nat} (h : n < 256) : -128 ≤ sgn n ∧ sgn n < 128 := by
  unfold sgn
  split <;> omega
theorem opd_ev {m : Nat} (hm : m ≤ 8) {v addr : Int} (hv : 0 ≤ v ∧ v < 65536) (hv7 : m = 7 → v < 256) (ha : 0 ≤ addr ∧ addr ≤ 100000) : Ev (fun k => operand47 k (m : Int) v addr) (mkB (opdL m (Lib.itoa (if m = 7 then (addr + sgn v.toNat) % 65536 else v))), ()) := by
  have hi := itoa_ev (n := v) (by omega)
  have hl := itoa_len (n := v) (by omega)
  unfold operand47
  refine .bind hi ?_
  match m, hm with
  | 0, _ => exact .no rfl (.no rfl (.no rfl (.no rfl (.no rfl (.no rfl (.no rfl (.no rfl (.now _))))))))
  | 1, _ => exact .yes rfl (.val (cat_mk (a := [32, 35]) (by simp; omega)) (.now _))
  | 2, _ => exact .no rfl (.yes rfl (.val (cat_mk (a := [32, 42]) (by simp; omega)) (.now _)))
  | 3, _ => exact .no rfl (.no rfl (.yes rfl (.val (cat_mk (a := [32, 42]) (by simp; omega)) (.val (cat_mk (b := [44, 120]) (by simp; omega)) (.now _)))))
  | 4, _ => exact .no rfl (.no rfl (.no rfl (.yes rfl (.val (cat_mk (a := [32]) (by simp; omega)) (.now _)))))
  | 5, _ => exact .no rfl (.no rfl (.no rfl (.no rfl (.yes rfl (.val (cat_mk (a := [32]) (by simp; omega)) (.val (cat_mk (b := [44, 120]) (by simp; omega)) (.now _)))))))
  | 6, _ => exact .no rfl (.no rfl (.no rfl (.no rfl (.no rfl (.yes rfl (.val (cat_mk (a := [32]) (by simp; omega)) (.val (cat_mk (b := [44, 121]) (by simp; omega)) (.now _))))))))
  | 7, _ =>
    have hv := hv7 rfl
    have hn : ((v.toNat : Nat) : Int) = v := by omega
    have hs := signed_ev (n := v.toNat) (by omega)
    rw [hn] at hs
    have hsi := sgn_in (n := v.toNat) (by omega)
    have hlow := low16_ev (addr + sgn v.toNat)
    rw [if_pos rfl]
    refine .no rfl (.no rfl (.no rfl (.no rfl (.no rfl (.no rfl (.yes rfl (.bind hs ?_)))))))
    show Ev (fun k => (Low48 k (w64 (addr + sgn v.toNat)) 16).bind _) _
    rw [w64_id (by omega) (by omega)]
    exact .bind hlow (.bind (itoa_ev (by omega)) (.val (cat_mk (a := [32, 64]) (by have := itoa_len (n := (addr + sgn v.toNat) % 65536) (by omega); simp; omega)) (.now _)))
  | 8, _ => exact .no rfl (.no rfl (.no rfl (.no rfl (.no rfl (.no rfl (.no rfl (.yes rfl (.val (cat_mk (a := [32, 40]) (by simp; omega)) (.val (cat_mk (b := [41, 44, 121]) (by simp; omega)) (.now _))))))))))
end Go.Proofs.YtcppmlgnceldmaaGreatDoor.Di

/- One instruction as text: both answer alike. No program in sight. -/
set_option linter.unusedVariables false
set_option maxRecDepth 100000
noncomputable section
namespace Go.Proofs.YtcppmlgnceldmaaGreatDoor.Di
open Go Go.Proofs.YtcppmlgnceldmaaGreatDoor.Gp

theorem w64_mod (x : Int) : w64 x % 65536 = x % 65536 := by
  show IntKind.wrap .i64 x % 65536 = _
  have e : (2 : Int) ^ (64 - 1) = 9223372036854775808 := by decide
  have e2 : (2 : Int) ^ 64 = 18446744073709551616 := by decide
  simp only [IntKind.wrap, IntKind.signed, IntKind.bits, Bool.true_and, decide_eq_true_eq, e, e2]
  split <;> omega
theorem tmod16 (y : Int) : Int.tmod (w64 (Int.tmod y 65536 + 65536)) 65536 = y % 65536 := by
  have h : -65536 < Int.tmod y 65536 ∧ Int.tmod y 65536 < 65536 ∧ (Int.tmod y 65536 + 65536) % 65536 = y % 65536 := by
    by_cases h0 : 0 ≤ y
    · rw [Int.tmod_eq_emod_of_nonneg h0]; omega
    · have e : Int.tmod y 65536 = -((-y) % 65536) := by
        have := Int.tmod_eq_emod_of_nonneg (a := -y) (b := 65536) (by omega)
        rw [← this, Int.neg_tmod, Int.neg_neg]
      rw [e]; omega
  rw [w64_id (by omega) (by omega), Int.tmod_eq_emod_of_nonneg (by omega)]
  exact h.2.2
def lenI (x : Ins) : Nat := 1 + sizeV x.2.2.1
theorem lenI_le (x : Ins) : 1 ≤ lenI x ∧ lenI x ≤ 3 := by
  have := sizeV_le x.2.2.1
  unfold lenI; omega
def byteB (y : Int) : ByteArray := mkB ([98, 121, 116, 101, 32] ++ Lib.itoa y)
def vA (b : List Int) : Nat → Int
  | 0 => 0
  | 1 => b.getD 1 0
  | _ => b.getD 1 0 + 256 * b.getD 2 0
def textA (x : Ins) (b : List Int) (addr : Int) : ByteArray := x.2.1 ++ mkB (opdL x.2.2.1.toNat (Lib.itoa (argA x.2.2.1.toNat (vA b (sizeV x.2.2.1)) addr)))
def oneA (c : Cpu) (b : List Int) (addr : Int) : ByteArray × Int × Unit :=
  match b with
  | [] => (ByteArray.mk #[], 0, ())
  | y :: l => match findI c y with
    | none => (byteB y, 1, ())
    | some x => if l.length + 1 < lenI x then (byteB y, 1, ()) else (textA x (y :: l) addr, (lenI x : Int), ())
theorem oneA_none {c : Cpu} {y : Int} (h : findI c y = none) (l : List Int) (addr : Int) : oneA c (y :: l) addr = (byteB y, 1, ()) := by
  unfold oneA
  simp only [h]
theorem oneA_short {c : Cpu} {y : Int} {x : Ins} (h : findI c y = some x) {l : List Int} (hl : l.length + 1 < lenI x) (addr : Int) : oneA c (y :: l) addr = (byteB y, 1, ()) := by
  unfold oneA
  simp only [h]
  exact if_pos hl
theorem oneA_some {c : Cpu} {y : Int} {x : Ins} (h : findI c y = some x) {l : List Int} (hl : ¬ l.length + 1 < lenI x) (addr : Int) : oneA c (y :: l) addr = (textA x (y :: l) addr, (lenI x : Int), ()) := by
  unfold oneA
  simp only [h]
  exact if_neg hl
structure Ok1 (c : Cpu) : Prop where
  ins : ∀ x ∈ c.2.1, OkI x
  nm : ∀ x ∈ c.2.1, x.2.1.size ≤ 140737488351232
theorem vA_in {b : List Int} (hb : ∀ y ∈ b, 0 ≤ y ∧ y < 256) (s : Nat) : 0 ≤ vA b s ∧ vA b s < 65536 ∧ (s ≤ 1 → vA b s < 256) := by
  have h : ∀ i, 0 ≤ b.getD i 0 ∧ b.getD i 0 < 256 := by
    intro i
    rw [List.getD_eq_getElem?_getD]
    cases hq : b[i]? with
    | none => exact ⟨by decide, by decide⟩
    | some y => exact hb y (get_mem hq)
  have h1 := h 1
  have h2 := h 2
  match s with
  | 0 => exact ⟨Int.le_refl 0, (by decide : (0 : Int) < 65536), fun _ => (by decide : (0 : Int) < 256)⟩
  | 1 => exact ⟨h1.1, by show b.getD 1 0 < 65536; omega, fun _ => h1.2⟩
  | n + 2 => exact ⟨by show 0 ≤ b.getD 1 0 + 256 * b.getD 2 0; omega, by show b.getD 1 0 + 256 * b.getD 2 0 < 65536; omega, fun h => by omega⟩
theorem rd_getD {b : List Int} {i : Nat} (h : i < b.length) : rd b (i : Int) = some (b.getD i 0) := by
  rw [rd_nat, List.getElem?_eq_getElem h, List.getD_eq_getElem?_getD, List.getElem?_eq_getElem h]; rfl
theorem num_lp {b : List Int} (hb : ∀ y ∈ b, 0 ≤ y ∧ y < 256) (x : Ins) {s : Nat} (hs : s ≤ 2) (hl : s < b.length) : Gp.Lp (fun k => One22.l0 k b) (x, 0, (s : Int)) (x, vA b s) := by
  have hg : ∀ i, 0 ≤ b.getD i 0 ∧ b.getD i 0 < 256 := by
    intro i
    rw [List.getD_eq_getElem?_getD]
    cases hq : b[i]? with
    | none => exact ⟨by decide, by decide⟩
    | some y => exact hb y (get_mem hq)
  have fin : ∀ v, Gp.Lp (fun k => One22.l0 k b) (x, v, (0 : Int)) (x, v) := fun v => .done (by
    simp only [One22.l0]
    exact .no rfl (.now _))
  have hw : ∀ z : Int, 0 ≤ z → z ≤ 1000000 → w64 z = z := fun z h0 h1 => w64_id (by omega) (by omega)
  match s, hs with
  | 0, _ => exact fin 0
  | 1, _ =>
    have h1 := hg 1
    refine .step (s' := (x, b.getD 1 0, 0)) ?_ (fin _)
    simp only [One22.l0]
    refine .yes rfl (.val (rd_getD (i := 1) hl) (.now' ?_))
    rw [hw (b.getD 1 0) h1.1 (by omega)]
    show Sum.inl (x, w64 (w64 0 + b.getD 1 0), w64 0) = _
    rw [hw 0 (by decide) (by decide), Int.zero_add, hw _ h1.1 (by omega)]
  | 2, _ =>
    have h1 := hg 1
    have h2 := hg 2
    refine .step (s' := (x, b.getD 2 0, 1)) ?_ (.step (s' := (x, b.getD 1 0 + 256 * b.getD 2 0, 0)) ?_ (fin _))
    · simp only [One22.l0]
      refine .yes rfl (.val (rd_getD (i := 2) hl) (.now' ?_))
      rw [hw (b.getD 2 0) h2.1 (by omega)]
      show Sum.inl (x, w64 (w64 0 + b.getD 2 0), w64 1) = _
      rw [hw 0 (by decide) (by decide), Int.zero_add, hw _ h2.1 (by omega)]; rfl
    · simp only [One22.l0]
      refine .yes rfl (.val (rd_getD (i := 1) (by omega)) (.now' ?_))
      rw [hw (b.getD 1 0) h1.1 (by omega), hw (b.getD 2 0 * 256) (by omega) (by omega), hw (b.getD 2 0 * 256 + b.getD 1 0) (by omega) (by omega)]
      show Sum.inl (x, b.getD 2 0 * 256 + b.getD 1 0, w64 0) = _
      rw [hw 0 (by decide) (by decide)]
      congr 3
      omega
theorem byte_p {y : Int} (hy : 0 ≤ y ∧ y < 256) : Ev (fun k => (Itoa36 k (w64 y)).bind fun t45 => (catS (ByteArray.mk #[98, 121, 116, 101, 32]) t45.1).bind fun t46 => some ((t46, (1 : Int), ()), ())) ((byteB y, 1, ()), ()) := by
  have hl := itoa_len (n := y) (by omega)
  rw [w64_id (by omega) (by omega)]
  exact .bind (itoa_ev (by omega)) (.val (cat_mk (a := [98, 121, 116, 101, 32]) (by simp; omega)) (.now _))
theorem one_p {c : Cpu} (hc : Wc c) (ho : Ok1 c) {b : List Int} (hb : ∀ y ∈ b, 0 ≤ y ∧ y < 256) (hbl : b.length ≤ 4611686018427387904) (addr : Int) : Ev (fun k => One22 k c b addr) (oneA c b addr, ()) := by
  unfold One22
  cases b with
  | nil => exact .yes rfl (.now _)
  | cons y l =>
    have hy := hb y (List.mem_cons_self ..)
    have hbl : l.length + 1 ≤ 4611686018427387904 := by simpa using hbl
    have hf := find_ev hc y
    have hlen : ((y :: l).length : Int) = (l.length : Int) + 1 := by rw [List.length_cons]; omega
    have hw : w64 y = y := w64_id (by omega) (by omega)
    have hrd : rd (y :: l) 0 = some y := rfl
    refine .no (beq_false_of_ne (by omega)) ?_
    cases h2 : findI c y with
    | none =>
      rw [oneA_none h2]
      rw [show findR c y = (none4, false, ()) from by unfold findR; rw [h2]] at hf
      refine .bind (a := (none4, false)) (.val hrd ?_) (.bind (size_ev (m := none4.2.2.1) ⟨by decide, by decide⟩) (.yes rfl (.val hrd (byte_p hy))))
      rw [hw]
      exact Ev.agr (.bind hf (.now _)) (.bind hf (.now _))
    | some x =>
      rw [show findR c y = (x, true, ()) from by unfold findR; rw [h2]] at hf
      have hx := ho.ins x (findI_mem h2)
      have hn := ho.nm x (findI_mem h2)
      have hl3 := lenI_le x
      have hsz := sizeV_le x.2.2.1
      have hw1 : w64 (1 + (sizeV x.2.2.1 : Int)) = (lenI x : Int) := by unfold lenI; rw [w64_id (by omega) (by omega)]; omega
      have hLI : lenI x = 1 + sizeV x.2.2.1 := rfl
      refine .bind (a := (x, true)) (.val hrd ?_) (.bind (size_ev hx.mode) ?_)
      · rw [hw]
        exact Ev.agr (.bind hf (.now _)) (.bind hf (.now _))
      show Ev (fun k => cond (cond (cond (!true) true (decide (w64 (1 + (sizeV x.2.2.1 : Int)) < 1))) true (decide (w64 (1 + (sizeV x.2.2.1 : Int)) > ((y :: l).length : Int)))) _ ((loopN (One22.l0 k (y :: l)) k (x, 0, w64 (w64 (1 + (sizeV x.2.2.1 : Int)) - 1))).bind _)) _
      rw [hw1, hlen]
      by_cases h3 : l.length + 1 < lenI x
      · rw [oneA_short h2 h3]
        refine .yes ?_ (.val hrd (byte_p hy))
        rw [decide_eq_false (p := (lenI x : Int) < 1) (by omega)]
        exact decide_eq_true (by omega)
      · rw [oneA_some h2 h3]
        have hv := vA_in hb (sizeV x.2.2.1)
        have hm : ((x.2.2.1.toNat : Nat) : Int) = x.2.2.1 := by have := hx.mode; omega
        have hm8 : x.2.2.1.toNat ≤ 8 := by have := hx.mode; omega
        have hs7 : x.2.2.1.toNat = 7 → sizeV x.2.2.1 = 1 := fun h => by rw [show x.2.2.1 = 7 by omega]; rfl
        have hN := num_lp hb x hsz (by rw [List.length_cons]; omega)
        have hop := opd_ev hm8 (v := vA (y :: l) (sizeV x.2.2.1)) (addr := addr % 65536 + (lenI x : Int)) ⟨hv.1, hv.2.1⟩ (fun h => hv.2.2 (by rw [hs7 h]; decide)) (by omega)
        rw [hm] at hop
        have hq : (if x.2.2.1.toNat = 7 then (addr % 65536 + (lenI x : Int) + sgn (vA (y :: l) (sizeV x.2.2.1)).toNat) % 65536 else vA (y :: l) (sizeV x.2.2.1)) = argA x.2.2.1.toNat (vA (y :: l) (sizeV x.2.2.1)) addr := by
          unfold argA
          by_cases h7 : x.2.2.1.toNat = 7
          · rw [if_pos h7, if_pos h7]
            have := hs7 h7
            omega
          · rw [if_neg h7, if_neg h7]
        rw [hq] at hop
        have hlw := low16_ev addr
        refine .no ?_ (.bind (a := (x, vA (y :: l) (sizeV x.2.2.1))) ?_ (.bind hlw ?_))
        · rw [decide_eq_false (p := (lenI x : Int) < 1) (by omega)]
          exact decide_eq_false (by omega)
        · rw [show w64 ((lenI x : Int) - 1) = (sizeV x.2.2.1 : Int) by rw [w64_id (by omega) (by omega)]; omega]
          exact hN.ev
        · show Ev (fun k => (operand47 k x.2.2.1 (vA (y :: l) (sizeV x.2.2.1)) (w64 (addr % 65536 + (lenI x : Int)))).bind _) _
          rw [w64_id (by omega) (by omega)]
          refine .bind hop (.val (cat_ok ?_) (.now _))
          have : (opdL x.2.2.1.toNat (Lib.itoa (argA x.2.2.1.toNat (vA (y :: l) (sizeV x.2.2.1)) addr))).length ≤ 30 := by
            refine opdL_len (itoa_len ?_)
            rw [← hq]
            split <;> omega
          rw [mkB_size]
          omega
theorem byte_r {y : Int} (hy : 0 ≤ y ∧ y < 256) : Ev (fun k => (Itoa36 k (w64 y)).bind fun t45 => (Replace59 k (ByteArray.mk #[98, 121, 116, 101, 32, 63]) (ByteArray.mk #[63]) t45.1 1).bind fun t46 => some ((t46.1, (1 : Int), ()), ())) ((byteB y, 1, ()), ()) := by
  have hl := itoa_len (n := y) (by omega)
  rw [w64_id (by omega) (by omega)]
  exact .bind (itoa_ev (by omega)) (.bind (byte_repl hl) (.now _))
theorem one_r {c : Cpu} (hc : Wc c) (ho : Ok1 c) {b : List Int} (hb : ∀ y ∈ b, 0 ≤ y ∧ y < 256) (hbl : b.length ≤ 4611686018427387904) (addr : Int) : Ev (fun k => One34 k c b addr) (oneA c b addr, ()) := by
  unfold One34 operands40
  cases b with
  | nil => exact .yes rfl (.now _)
  | cons y l =>
    have hy := hb y (List.mem_cons_self ..)
    have hbl : l.length + 1 ≤ 4611686018427387904 := by simpa using hbl
    have hf := with_ev hc y
    have hlen : ((y :: l).length : Int) = (l.length : Int) + 1 := by rw [List.length_cons]; omega
    have hw : w64 y = y := w64_id (by omega) (by omega)
    have hrd : rd (y :: l) 0 = some y := rfl
    refine .no (beq_false_of_ne (by omega)) (.bind (.now _) ?_)
    cases h2 : findI c y with
    | none =>
      rw [oneA_none h2]
      rw [show findR c y = (none4, false, ()) from by unfold findR; rw [h2]] at hf
      refine .bind (a := (none4, false)) (.val hrd ?_) (.bind (a := true) (.yes rfl (.now _)) (.yes rfl (.val hrd (byte_r hy))))
      rw [hw]
      exact Ev.agr (.bind hf (.now _)) (.bind hf (.now _))
    | some x =>
      rw [show findR c y = (x, true, ()) from by unfold findR; rw [h2]] at hf
      have hx := ho.ins x (findI_mem h2)
      have hn := ho.nm x (findI_mem h2)
      have hl3 := lenI_le x
      have hsz := sizeV_le x.2.2.1
      have hLI : lenI x = 1 + sizeV x.2.2.1 := rfl
      have hsr := size_rd hx.mode
      have hg : ∀ i, 0 ≤ (y :: l).getD i 0 ∧ (y :: l).getD i 0 < 256 := by
        intro i
        rw [List.getD_eq_getElem?_getD]
        cases hq : (y :: l)[i]? with
        | none => exact ⟨by decide, by decide⟩
        | some z => exact hb z (get_mem hq)
      refine .bind (a := (x, true)) (.val hrd ?_) (.bind (a := decide (((y :: l).length : Int) ≤ (sizeV x.2.2.1 : Int))) (.no rfl (.val hsr (.now _))) ?_)
      · rw [hw]
        exact Ev.agr (.bind hf (.now _)) (.bind hf (.now _))
      by_cases h3 : l.length + 1 < lenI x
      · rw [oneA_short h2 h3]
        exact .yes (decide_eq_true (by omega)) (.val hrd (byte_r hy))
      · rw [oneA_some h2 h3]
        have hm : ((x.2.2.1.toNat : Nat) : Int) = x.2.2.1 := by have := hx.mode; omega
        have hm8 : x.2.2.1.toNat ≤ 8 := by have := hx.mode; omega
        have hs7 : x.2.2.1.toNat = 7 → sizeV x.2.2.1 = 1 := fun h => by rw [show x.2.2.1 = 7 by omega]; rfl
        have hv := vA_in hb (sizeV x.2.2.1)
        have h1 := hg 1
        have h2' := hg 2
        have hfr := form_rd hm8
        rw [hm] at hfr
        have hin : -9223372036854775808 ≤ argA x.2.2.1.toNat (vA (y :: l) (sizeV x.2.2.1)) addr ∧ argA x.2.2.1.toNat (vA (y :: l) (sizeV x.2.2.1)) addr ≤ 9223372036854775807 := by
          unfold argA
          split <;> omega
        have hil := itoa_len hin
        refine .no (decide_eq_false (by omega)) (.val hsr (.bind (a := (x, if 0 < sizeV x.2.2.1 then (y :: l).getD 1 0 else 0)) ?_ (.val hsr (.bind (a := (x, vA (y :: l) (sizeV x.2.2.1))) ?_ (.bind (a := (x, argA x.2.2.1.toNat (vA (y :: l) (sizeV x.2.2.1)) addr)) ?_ (.val hfr (.val hsr (.bind (itoa_ev hin) (.bind (form_ev hm8 hil) (.val (cat_ok ?_) (.now' ?_)))))))))))
        · by_cases hp : 0 < sizeV x.2.2.1
          · rw [if_pos hp]
            refine .yes (decide_eq_true (by omega)) (.val (rd_getD (i := 1) (by rw [List.length_cons]; omega)) (.now' ?_))
            rw [w64_id (by omega) (by omega)]
          · rw [if_neg hp]
            exact .no (decide_eq_false (by omega)) (.now _)
        · by_cases hp : sizeV x.2.2.1 = 2
          · rw [hp]
            refine .yes rfl (.val (rd_getD (i := 2) (by rw [List.length_cons]; omega)) (.now' ?_))
            show (x, w64 ((y :: l).getD 1 0 + w64 (256 * w64 ((y :: l).getD 2 0)))) = (x, (y :: l).getD 1 0 + 256 * (y :: l).getD 2 0)
            rw [w64_id (x := (y :: l).getD 2 0) (by omega) (by omega), w64_id (x := 256 * (y :: l).getD 2 0) (by omega) (by omega), w64_id (by omega) (by omega)]
          · refine .no (decide_eq_false (by omega)) (.now' ?_)
            rcases (show sizeV x.2.2.1 = 0 ∨ sizeV x.2.2.1 = 1 by omega) with h | h
            · rw [h]; rfl
            · rw [h]; rfl
        · by_cases h7 : x.2.2.1.toNat = 7
          · have hv7 := hv.2.2 (by rw [hs7 h7]; decide)
            have hv0 := hv.1
            unfold argA
            rw [if_pos h7]
            generalize vA (y :: l) (sizeV x.2.2.1) = v at hv7 hv0
            refine .yes (beq_iff_eq.2 (by omega)) (.bind (a := (x, sgn v.toNat)) ?_ (.now' ?_))
            · unfold sgn
              by_cases hs : v > 127
              · refine .yes (decide_eq_true hs) (.now' ?_)
                rw [if_pos (by omega), w64_id (by omega) (by omega)]
                congr 1
                omega
              · refine .no (decide_eq_false hs) (.now' ?_)
                rw [if_neg (by omega)]
                congr 1
                omega
            · congr 1
              rw [tmod16, w64_mod]
              have := w64_mod (addr + 2)
              omega
          · refine .no (beq_false_of_ne (by omega)) (.now' ?_)
            unfold argA
            rw [if_neg h7]
        · have := opdL_len (m := x.2.2.1.toNat) hil
          rw [mkB_size]
          omega
        · rw [w64_id (by omega) (by omega)]
          show ((textA x (y :: l) addr, 1 + (sizeV x.2.2.1 : Int), ()), ()) = _
          rw [show (1 + (sizeV x.2.2.1 : Int)) = (lenI x : Int) by omega]
end Go.Proofs.YtcppmlgnceldmaaGreatDoor.Di

/- The lines of a listing: both ways. No program in sight. -/
set_option linter.unusedVariables false
set_option maxRecDepth 100000
noncomputable section
namespace Go.Proofs.YtcppmlgnceldmaaGreatDoor.Di
open Go Go.Proofs.YtcppmlgnceldmaaGreatDoor.Gp

abbrev Lb := ByteArray × Int
abbrev Cod := Int × List Int × List Lb
abbrev Lin := Int × List Int × ByteArray
/-- the first place from k on, of n, that is so -/
def firstF (h : Nat → Bool) : Nat → Nat → Nat
  | k, 0 => k
  | k, n + 1 => if h k then k else firstF h (k + 1) n
theorem firstF_succ (h : Nat → Bool) (k n : Nat) : firstF h k (n + 1) = if h k then k else firstF h (k + 1) n := rfl
theorem firstF_spec (h : Nat → Bool) : ∀ n k, k ≤ firstF h k n ∧ firstF h k n ≤ k + n ∧ (firstF h k n = k + n ∨ h (firstF h k n) = true) ∧ ∀ j, k ≤ j → j < firstF h k n → h j = false
  | 0, k => ⟨Nat.le_refl _, Nat.le_refl _, .inl rfl, fun j h1 h2 => absurd h2 (by show ¬ j < k; omega)⟩
  | n + 1, k => by
    unfold firstF
    by_cases hk : h k = true
    · rw [if_pos hk]
      exact ⟨Nat.le_refl _, by omega, .inr hk, fun j h1 h2 => by omega⟩
    · rw [if_neg hk]
      obtain ⟨h1, h2, h3, h4⟩ := firstF_spec h n (k + 1)
      refine ⟨by omega, by omega, ?_, fun j g1 g2 => ?_⟩
      · rcases h3 with h3 | h3
        · exact .inl (by omega)
        · exact .inr h3
      · by_cases hj : j = k
        · subst hj; simpa using hk
        · exact h4 j (by omega) g2
theorem firstF_uniq {h : Nat → Bool} {n k m : Nat} (h1 : k ≤ m) (h2 : m ≤ k + n) (h3 : m = k + n ∨ h m = true) (h4 : ∀ j, k ≤ j → j < m → h j = false) : firstF h k n = m := by
  obtain ⟨g1, g2, g3, g4⟩ := firstF_spec h n k
  rcases Nat.lt_trichotomy (firstF h k n) m with hl | hl | hl
  · rcases g3 with g3 | g3
    · omega
    · rw [h4 _ g1 hl] at g3; cases g3
  · exact hl
  · rcases h3 with h3 | h3
    · omega
    · rw [g4 _ h1 hl] at h3; cases h3
def hasL (l : List Lb) (a : Int) : Bool := l.any (fun x => x.2 == a)
/-- where the bytes of an instruction at i must end -/
def stopA (code : Cod) (i : Nat) : Nat := firstF (fun k => hasL code.2.2 (code.1 + (k : Int))) (i + 1) (code.2.1.length - (i + 1))
theorem stopA_in {code : Cod} {i : Nat} (h : i < code.2.1.length) : i + 1 ≤ stopA code i ∧ stopA code i ≤ code.2.1.length := by
  obtain ⟨h1, h2, _⟩ := firstF_spec (fun k => hasL code.2.2 (code.1 + (k : Int))) (code.2.1.length - (i + 1)) (i + 1)
  exact ⟨h1, Nat.le_trans h2 (by omega)⟩
structure OkK (code : Cod) : Prop where
  base : -1099511627776 ≤ code.1 ∧ code.1 ≤ 1099511627776
  len : code.2.1.length ≤ 300
  labs : code.2.2.length ≤ 20
  byte : ∀ y ∈ code.2.1, 0 ≤ y ∧ y < 256
  lab : ∀ x ∈ code.2.2, x.1.size ≤ 140737488351232 ∧ -9223372036854775808 ≤ x.2 ∧ x.2 ≤ 9223372036854775807
theorem free_p {code : Cod} (hk : OkK code) {i : Nat} (hi : i < code.2.1.length) : Ev (fun k => free31 k code.2.2 (code.1 + (i : Int)) ((code.2.1.length - i : Nat) : Int)) (((stopA code i - i : Nat) : Int), ()) := by
  have hb := hk.base
  have hl := hk.len
  have hlb := hk.labs
  have key : ∀ (suf pre : List Lb), code.2.2 = pre ++ suf → ∀ m, i + 1 ≤ m → m ≤ code.2.1.length → (m = code.2.1.length ∨ hasL pre (code.1 + (m : Int)) = true) → (∀ j, i + 1 ≤ j → j < m → hasL pre (code.1 + (j : Int)) = false) →
      Gp.Lp (fun k => free31.l0 k code.2.2 (code.1 + (i : Int))) (((m - i : Nat) : Int), (pre.length : Int)) ((stopA code i - i : Nat) : Int) := by
    intro suf
    induction suf with
    | nil =>
      intro pre h m h1 h2 h3 h4
      rw [List.append_nil] at h
      subst h
      have : stopA code i = m := firstF_uniq h1 (by omega) (by rcases h3 with h3 | h3; exact .inl (by omega); exact .inr h3) h4
      rw [this]
      refine .done ?_
      simp only [free31.l0]
      exact .no (by simp) (.now _)
    | cons x suf ih =>
      intro pre h m h1 h2 h3 h4
      have hx : code.2.2[pre.length]? = some x := by rw [h]; simp
      have hlt := get_lt hx
      have hxm := hk.lab x (get_mem hx)
      have hany : ∀ a, hasL (pre ++ [x]) a = (hasL pre a || (x.2 == a)) := fun a => by simp [hasL]
      have hpl : (((pre ++ [x]).length : Nat) : Int) = (pre.length : Int) + 1 := by simp
      have hwadd : w64 (code.1 + (i : Int) + ((m - i : Nat) : Int)) = code.1 + (m : Int) := by rw [w64_id (by omega) (by omega)]; omega
      by_cases hc : x.2 > code.1 + (i : Int) ∧ x.2 < code.1 + (m : Int)
      · have hm : ∃ m' : Nat, x.2 = code.1 + (m' : Int) ∧ i + 1 ≤ m' ∧ m' < m := ⟨(x.2 - code.1).toNat, by omega, by omega, by omega⟩
        obtain ⟨m', e, g1, g2⟩ := hm
        have := ih (pre ++ [x]) (by rw [h]; simp) m' g1 (by omega) (.inr (by rw [hany, e]; simp)) (fun j k1 k2 => by
          rw [hany, h4 j k1 (by omega)]
          exact beq_false_of_ne (by omega))
        refine .step ?_ this
        simp only [free31.l0]
        refine .yes (decide_eq_true (by omega)) (.val (rd_some' hx) (.bind (a := x.2 - (code.1 + (i : Int))) (.yes ?_ (.now' ?_)) (.now' ?_)))
        · rw [hwadd, decide_eq_true hc.1]
          exact decide_eq_true hc.2
        · rw [w64_id (by omega) (by omega)]
        · rw [hpl, w64_id (by omega) (by omega)]
          congr 2
          omega
      · have := ih (pre ++ [x]) (by rw [h]; simp) m h1 h2 (by rcases h3 with h3 | h3; exact .inl h3; exact .inr (by rw [hany, h3]; rfl)) (fun j k1 k2 => by
          rw [hany, h4 j k1 k2]
          exact beq_false_of_ne (by omega))
        refine .step ?_ this
        simp only [free31.l0]
        refine .yes (decide_eq_true (by omega)) (.val (rd_some' hx) (.bind (a := ((m - i : Nat) : Int)) (.no ?_ (.now _)) (.now' ?_)))
        · rw [hwadd]
          by_cases h5 : x.2 > code.1 + (i : Int)
          · rw [decide_eq_true h5]
            exact decide_eq_false (fun h6 => hc ⟨h5, h6⟩)
          · rw [decide_eq_false h5]; rfl
        · rw [hpl, w64_id (by omega) (by omega)]
  unfold free31
  exact .bind (key code.2.2 [] rfl code.2.1.length (by omega) (Nat.le_refl _) (.inl rfl) (fun j _ _ => rfl)).ev (.now _)
theorem oneA_n {c : Cpu} {b : List Int} {addr : Int} (h : 0 < b.length) : ∃ n : Nat, (oneA c b addr).2.1 = (n : Int) ∧ 1 ≤ n ∧ n ≤ b.length := by
  cases b with
  | nil => cases h
  | cons y l =>
    cases h2 : findI c y with
    | none => exact ⟨1, by rw [oneA_none h2]; rfl, Nat.le_refl _, by rw [List.length_cons]; omega⟩
    | some x =>
      have hl3 := lenI_le x
      by_cases h3 : l.length + 1 < lenI x
      · exact ⟨1, by rw [oneA_short h2 h3]; rfl, Nat.le_refl _, by rw [List.length_cons]; omega⟩
      · exact ⟨lenI x, by rw [oneA_some h2 h3], hl3.1, by rw [List.length_cons]; omega⟩
def rowA (code : Cod) (i : Nat) : List Int := (code.2.1.drop i).take (stopA code i - i)
theorem rowA_len {code : Cod} {i : Nat} (h : i < code.2.1.length) : (rowA code i).length = stopA code i - i := by
  have := stopA_in h
  unfold rowA
  rw [List.length_take, List.length_drop]; omega
def nA (c : Cpu) (code : Cod) (i : Nat) : Nat := (oneA c (rowA code i) (code.1 + (i : Int))).2.1.toNat
theorem nA_ok {c : Cpu} {code : Cod} {i : Nat} (h : i < code.2.1.length) : (oneA c (rowA code i) (code.1 + (i : Int))).2.1 = (nA c code i : Int) ∧ 1 ≤ nA c code i ∧ i + nA c code i ≤ stopA code i := by
  have hs := stopA_in h
  have hr := rowA_len h
  obtain ⟨n, h1, h2, h3⟩ := oneA_n (c := c) (b := rowA code i) (addr := code.1 + (i : Int)) (by omega)
  unfold nA
  rw [h1]
  exact ⟨by omega, by omega, by omega⟩
def lineA (c : Cpu) (code : Cod) (i : Nat) : Lin := (code.1 + (i : Int), (rowA code i).take (nA c code i), (oneA c (rowA code i) (code.1 + (i : Int))).1)
def linesG (c : Cpu) (code : Cod) : Nat → Nat → List Lin
  | 0, _ => []
  | f + 1, i => if i < code.2.1.length then lineA c code i :: linesG c code f (i + nA c code i) else []
theorem linesG_fuel {c : Cpu} {code : Cod} : ∀ f g i, code.2.1.length ≤ i + f → code.2.1.length ≤ i + g → linesG c code f i = linesG c code g i
  | 0, 0, i, _, _ => rfl
  | 0, g + 1, i, h, _ => by unfold linesG; rw [if_neg (by omega)]
  | f + 1, 0, i, _, h => by unfold linesG; rw [if_neg (by omega)]
  | f + 1, g + 1, i, h1, h2 => by
    unfold linesG
    by_cases h : i < code.2.1.length
    · rw [if_pos h, if_pos h]
      have := (nA_ok (c := c) h).2.1
      rw [linesG_fuel f g _ (by omega) (by omega)]
    · rw [if_neg h, if_neg h]
def linesF (c : Cpu) (code : Cod) (i : Nat) : List Lin := linesG c code code.2.1.length i
theorem linesF_step {c : Cpu} {code : Cod} {i : Nat} (h : i < code.2.1.length) : linesF c code i = lineA c code i :: linesF c code (i + nA c code i) := by
  unfold linesF
  obtain ⟨n, hn⟩ : ∃ n, code.2.1.length = n + 1 := ⟨code.2.1.length - 1, by omega⟩
  have h1 := (nA_ok (c := c) h).2.1
  rw [linesG_fuel (c := c) (code := code) code.2.1.length (code.2.1.length + 1) i (by omega) (by omega)]
  conv => lhs; unfold linesG
  rw [if_pos h]
theorem linesF_end {c : Cpu} {code : Cod} {i : Nat} (h : code.2.1.length ≤ i) : linesF c code i = [] := by
  unfold linesF
  rw [linesG_fuel (c := c) (code := code) code.2.1.length 0 i (by omega) (by omega)]
  rfl
theorem linesG_len {c : Cpu} {code : Cod} : ∀ f i, (linesG c code f i).length ≤ f
  | 0, _ => Nat.le_refl _
  | f + 1, i => by
    unfold linesG
    split
    · rw [List.length_cons]; have := linesG_len (c := c) (code := code) f (i + nA c code i); omega
    · exact Nat.zero_le _
theorem row_ok {code : Cod} (hk : OkK code) (i : Nat) : (∀ y ∈ rowA code i, 0 ≤ y ∧ y < 256) ∧ (rowA code i).length ≤ 300 := by
  refine ⟨fun y hy => hk.byte y (List.mem_of_mem_drop (List.mem_of_mem_take hy)), ?_⟩
  have := hk.len
  unfold rowA
  rw [List.length_take, List.length_drop]; omega
theorem lines_p {c : Cpu} (hc : Wc c) (ho : Ok1 c) {code : Cod} (hk : OkK code) : ∀ f i (o : List Lin), code.2.1.length ≤ i + f → i ≤ code.2.1.length → o.length ≤ i → Gp.Lp (fun k => Lines10.l0 k) (c, code, (), (i : Int), o) ((), o ++ linesF c code i) := by
  have hb := hk.base
  have hl := hk.len
  intro f
  induction f with
  | zero =>
    intro i o h1 h2 h3
    rw [linesF_end (by omega), List.append_nil]
    refine .done ?_
    simp only [Lines10.l0]
    exact .no (decide_eq_false (by omega)) (.now _)
  | succ f ih =>
    intro i o h1 h2 h3
    by_cases hi : i < code.2.1.length
    · have hs := stopA_in hi
      have hr := rowA_len hi
      obtain ⟨n1, n2, n3⟩ := nA_ok (c := c) hi
      obtain ⟨b1, b2⟩ := row_ok hk i
      have hO := one_p hc ho b1 (by omega) (code.1 + (i : Int))
      have hF := free_p hk hi
      rw [linesF_step hi]
      have ih := ih (i + nA c code i) (o ++ [lineA c code i]) (by omega) (by omega) (by rw [List.length_append, List.length_singleton]; omega)
      rw [List.append_assoc, List.singleton_append] at ih
      refine .step ?_ ih
      simp only [Lines10.l0]
      have hw : w64 (code.1 + (i : Int)) = code.1 + (i : Int) := w64_id (by omega) (by omega)
      refine .yes (decide_eq_true (by omega)) (.val (slc_tail (a := i) (by omega)) ?_)
      rw [hw, List.length_drop]
      refine .bind hF (.val (a := rowA code i) ?_ (.bind hO ?_))
      · have := slc_ok (l := code.2.1.drop i) (a := 0) (b := stopA code i - i) (by omega) (by rw [List.length_drop]; omega)
        simpa [rowA] using this
      · show Ev (fun k => (slc (rowA code i) 0 (oneA c (rowA code i) (code.1 + (i : Int))).2.1).bind _) _
        rw [n1]
        refine .val (a := (rowA code i).take (nA c code i)) ?_ (.val (if_pos (room_ok ?_)) (.val (if_pos (room_ok ?_)) (.now' ?_)))
        · have := slc_ok (l := rowA code i) (a := 0) (b := nA c code i) (by omega) (by omega)
          simpa using this
        · rw [List.length_take]; omega
        · rw [List.length_singleton]; omega
        · rw [w64_id (by omega) (by omega)]
          rfl
    · rw [linesF_end (by omega), List.append_nil]
      refine .done ?_
      simp only [Lines10.l0]
      exact .no (decide_eq_false (by omega)) (.now _)
theorem linesP_ev {c : Cpu} (hc : Wc c) (ho : Ok1 c) {code : Cod} (hk : OkK code) : Ev (fun k => Lines10 k c code) (linesF c code 0, ()) := by
  unfold Lines10
  exact .bind (lines_p hc ho hk code.2.1.length 0 [] (by omega) (by omega) (Nat.le_refl _)).ev (.now _)
-- the reference's
theorem has_ev {code : Cod} (hk : OkK code) {m : Nat} (hm : m ≤ 300) : Ev (fun k => ContainsFunc32 k code.2.2 (code, (), ()) (m : Int)) (hasL code.2.2 (code.1 + (m : Int)), (m : Int)) := by
  have hb := hk.base
  have hlb := hk.labs
  have hw : w64 (code.1 + (m : Int)) = code.1 + (m : Int) := w64_id (by omega) (by omega)
  have key : ∀ (suf pre : List Lb), code.2.2 = pre ++ suf → ∃ r, Gp.Lp (fun k => IndexFunc58.l0 k code.2.2) ((code, (), ()), (pre.length : Int), (m : Int)) r ∧ (match hasL suf (code.1 + (m : Int)) with | true => ∃ j : Nat, r = .inr ((j : Int), (m : Int)) | false => r = .inl (m : Int)) := by
    intro suf
    induction suf with
    | nil =>
      intro pre h
      rw [List.append_nil] at h
      subst h
      refine ⟨.inl (m : Int), .done ?_, rfl⟩
      simp only [IndexFunc58.l0]
      exact .no (by simp) (.now _)
    | cons x suf ih =>
      intro pre h
      have hx : code.2.2[pre.length]? = some x := by rw [h]; simp
      have hlt := get_lt hx
      cases hq : (x.2 == code.1 + (m : Int)) with
      | true =>
        refine ⟨.inr ((pre.length : Int), (m : Int)), .done ?_, ?_⟩
        · simp only [IndexFunc58.l0]
          refine .yes (decide_eq_true (by omega)) (.val (rd_some' hx) (.bind (a := (true, (m : Int))) (.const ?_) (.yes rfl (.now _))))
          show some ((x.2 == w64 (code.1 + (m : Int))), (m : Int)) = _
          rw [hw, hq]
        · have : hasL (x :: suf) (code.1 + (m : Int)) = true := by simp [hasL, hq]
          rw [this]
          exact ⟨pre.length, rfl⟩
      | false =>
        obtain ⟨r, h1, h2⟩ := ih (pre ++ [x]) (by rw [h]; simp)
        refine ⟨r, .step ?_ h1, ?_⟩
        · simp only [IndexFunc58.l0]
          refine .yes (decide_eq_true (by omega)) (.val (rd_some' hx) (.bind (a := (false, (m : Int))) (.const ?_) (.no rfl (.now' ?_))))
          · show some ((x.2 == w64 (code.1 + (m : Int))), (m : Int)) = _
            rw [hw, hq]
          · rw [w64_succ (by omega)]; simp
        · have : hasL (x :: suf) (code.1 + (m : Int)) = hasL suf (code.1 + (m : Int)) := by
            unfold hasL
            rw [List.any_cons, hq, Bool.false_or]
          rw [this]
          exact h2
  obtain ⟨r, h1, h2⟩ := key code.2.2 [] rfl
  unfold ContainsFunc32 IndexFunc58
  cases hh : hasL code.2.2 (code.1 + (m : Int)) with
  | true =>
    rw [hh] at h2
    obtain ⟨j, rfl⟩ := h2
    refine .bind (.joinR h1.ev) (.now' ?_)
    rw [decide_eq_true (show ((j : Int), (m : Int)).1 ≥ 0 by show (j : Int) ≥ 0; omega)]
  | false =>
    rw [hh] at h2
    subst h2
    exact .bind (.joinL (S := Unit) h1.ev (.now _)) (.now _)
theorem stop_r {c : Cpu} {code : Cod} (hk : OkK code) {i : Nat} (hi : i < code.2.1.length) (o : List Lin) : ∀ n m, m = i + 1 + n → m ≤ code.2.1.length →
    Gp.Lp (fun k => Lines11.l0 k (i : Int)) (c, code, (), ((firstF (fun k => hasL code.2.2 (code.1 + (k : Int))) m (code.2.1.length - m) : Nat) : Int), (), o, (m : Int) - 1) (c, code, (), (stopA code i : Int), o) := by
  have hl := hk.len
  intro n
  induction n with
  | zero =>
    intro m hm h2
    refine .done ?_
    simp only [Lines11.l0]
    refine .no (decide_eq_false (by omega)) (.now' ?_)
    have : m = i + 1 := by omega
    subst this
    rfl
  | succ n ih =>
    intro m hm h2
    have hh := has_ev hk (m := m - 1) (by omega)
    have e : ((m - 1 : Nat) : Int) = (m : Int) - 1 := by omega
    rw [e] at hh
    have := ih (m - 1) (by omega) (by omega)
    rw [e] at this
    have hf : firstF (fun k => hasL code.2.2 (code.1 + (k : Int))) (m - 1) (code.2.1.length - (m - 1)) = if hasL code.2.2 (code.1 + ((m : Int) - 1)) = true then m - 1 else firstF (fun k => hasL code.2.2 (code.1 + (k : Int))) m (code.2.1.length - m) := by
      obtain ⟨q, hq⟩ : ∃ q, code.2.1.length - (m - 1) = q + 1 := ⟨code.2.1.length - m, by omega⟩
      rw [hq, firstF_succ, show m - 1 + 1 = m by omega, show code.2.1.length - m = q by omega, e]
    rw [hf] at this
    refine .step ?_ this
    simp only [Lines11.l0]
    refine .yes (decide_eq_true (by omega)) (.bind hh ?_)
    have hwm : w64 ((m : Int) - 1 - 1) = (m : Int) - 1 - 1 := w64_id (by omega) (by omega)
    cases hx : hasL code.2.2 (code.1 + ((m : Int) - 1)) with
    | true =>
      rw [if_pos rfl]
      refine .bind (a := (c, code, (), (m : Int) - 1, (), o, (m : Int) - 1)) (.yes rfl (.now _)) (.now' ?_)
      rw [hwm, e]
    | false =>
      rw [if_neg (by decide)]
      refine .bind (a := (c, code, (), ((firstF (fun k => hasL code.2.2 (code.1 + (k : Int))) m (code.2.1.length - m) : Nat) : Int), (), o, (m : Int) - 1)) (.no rfl (.now _)) (.now' ?_)
      rw [hwm]
theorem cloneI_ev (s : List Int) (h : s.length ≤ 1000) : Ev (fun k => Clone35 k s) (s, ()) := by
  unfold Clone35
  have e : (if room (0 + List.length s) 1 then some () else none : Option Unit) = some () := if_pos (room_ok (by omega))
  refine Ev.const ?_
  rw [orNil_same (fun h0 => ?_)]
  · show Option.bind _ _ = _
    rw [e]; rfl
  · have := List.length_eq_zero_iff.1 h0
    subst this
    rw [e]; rfl
theorem lines_r {c : Cpu} (hc : Wc c) (ho : Ok1 c) {code : Cod} (hk : OkK code) : ∀ f i e (o : List Lin), code.2.1.length = i + f → i ≤ e → e ≤ code.2.1.length → o.length ≤ e → Gp.Lp (fun k => Lines11.l1 k code) (c, code, (), (e : Int), (i : Int), o) ((), o ++ linesF c code e) := by
  have hb := hk.base
  have hl := hk.len
  intro f
  induction f with
  | zero =>
    intro i e o h1 h2 h3 h4
    rw [linesF_end (by omega), List.append_nil]
    refine .done ?_
    simp only [Lines11.l1]
    exact .no (decide_eq_false (by omega)) (.now _)
  | succ f ih =>
    intro i e o h1 h2 h3 h4
    have hi : i < code.2.1.length := by omega
    have hwi : w64 ((i : Int) + 1) = ((i + 1 : Nat) : Int) := w64_succ (by omega)
    by_cases hie : i < e
    · refine .step ?_ (ih (i + 1) e o (by omega) (by omega) h3 h4)
      simp only [Lines11.l1]
      refine .yes (decide_eq_true (by omega)) (.bind (a := (c, code, (), (e : Int), o)) (.yes (decide_eq_true (by omega)) (.now _)) (.now' ?_))
      rw [hwi]
    · have : e = i := by omega
      subst this
      have hs := stopA_in hi
      have hr := rowA_len hi
      obtain ⟨n1, n2, n3⟩ := nA_ok (c := c) hi
      obtain ⟨b1, b2⟩ := row_ok hk e
      have hO := one_r hc ho b1 (by omega) (code.1 + (e : Int))
      have hS := stop_r (c := c) hk hi o (code.2.1.length - (e + 1)) code.2.1.length (by omega) (Nat.le_refl _)
      rw [Nat.sub_self] at hS
      rw [linesF_step hi]
      have ih := ih (e + 1) (e + nA c code e) (o ++ [lineA c code e]) (by omega) (by omega) (by omega) (by rw [List.length_append, List.length_singleton]; omega)
      rw [List.append_assoc, List.singleton_append] at ih
      refine .step ?_ ih
      simp only [Lines11.l1]
      have hw : w64 (code.1 + (e : Int)) = code.1 + (e : Int) := w64_id (by omega) (by omega)
      have hwl : w64 ((code.2.1.length : Int) - 1) = (code.2.1.length : Int) - 1 := w64_id (by omega) (by omega)
      refine .yes (decide_eq_true (by omega)) (.bind (a := (c, code, (), ((e + nA c code e : Nat) : Int), o ++ [lineA c code e])) (.no (decide_eq_false (by omega)) ?_) (.now' ?_))
      · rw [hwl]
        refine .bind hS.ev (.val (a := rowA code e) ?_ ?_)
        · have := slc_ok (l := code.2.1) (a := e) (b := stopA code e) (by omega) (by omega)
          rw [this, List.drop_take]; rfl
        · show Ev (fun k => (One34 k c (rowA code e) (w64 (code.1 + (e : Int)))).bind _) _
          rw [hw]
          refine .bind hO ?_
          show Ev (fun k => (slc code.2.1 (e : Int) (w64 ((e : Int) + (oneA c (rowA code e) (code.1 + (e : Int))).2.1))).bind _) _
          rw [n1, show w64 ((e : Int) + (nA c code e : Int)) = ((e + nA c code e : Nat) : Int) by rw [w64_id (by omega) (by omega)]; omega]
          have htk : (code.2.1.drop e).take (nA c code e) = (rowA code e).take (nA c code e) := by
            unfold rowA
            rw [List.take_take, Nat.min_eq_left (by omega)]
          refine .val (a := (rowA code e).take (nA c code e)) ?_ (.bind (cloneI_ev _ (by rw [List.length_take]; omega)) (.val (if_pos (room_ok ?_)) (.now' ?_)))
          · have := slc_ok (l := code.2.1) (a := e) (b := e + nA c code e) (by omega) (by omega)
            rw [this, List.drop_take, ← htk, Nat.add_sub_cancel_left]
          · show (o.length + 1) * 48 ≤ _
            omega
          · rfl
      · rw [hwi]
theorem linesR_ev {c : Cpu} (hc : Wc c) (ho : Ok1 c) {code : Cod} (hk : OkK code) : Ev (fun k => Lines11 k c code) (linesF c code 0, ()) := by
  unfold Lines11
  exact .bind (lines_r hc ho hk code.2.1.length 0 0 [] (by omega) (Nat.le_refl _) (by omega) (Nat.le_refl _)).ev (.now _)
theorem linesR_ev' {c : Cpu} (hc : Wc c) (ho : Ok1 c) {code : Cod} (hk : OkK code) : Ev (fun k => Lines11' k c code) ((), linesF c code 0) := by
  unfold Lines11'
  exact .bind (a := ((), linesF c code 0)) (lines_r hc ho hk code.2.1.length 0 0 [] (by omega) (Nat.le_refl _) (by omega) (Nat.le_refl _)).ev (.now _)
end Go.Proofs.YtcppmlgnceldmaaGreatDoor.Di

/- Listings and names: both ways; the law. No program in sight. -/
set_option linter.unusedVariables false
set_option maxRecDepth 100000
noncomputable section
namespace Go.Proofs.YtcppmlgnceldmaaGreatDoor.Di
open Go Go.Proofs.YtcppmlgnceldmaaGreatDoor.Gp

theorem foldl_if {α β : Type} (p : α → Bool) (g : α → β) : ∀ (l : List α) (o : List β), l.foldl (fun o x => if p x then o ++ [g x] else o) o = o ++ (l.filter p).map g
  | [], o => by simp
  | x :: l, o => by
    rw [List.foldl_cons, foldl_if p g l]
    by_cases h : p x = true
    · simp [h]
    · simp [h]
def atL (code : Cod) (a : Int) : List ByteArray := (code.2.2.filter (fun x => x.2 == a)).map (fun x => x.1)
def labsA (code : Cod) (a : Int) : List ByteArray := (code.2.2.filter (fun x => x.2 == a)).map (fun x => x.1 ++ mkB [58])
theorem labsA_len {code : Cod} (hk : OkK code) (a : Int) : (labsA code a).length ≤ 20 := by
  have := hk.labs
  unfold labsA
  rw [List.length_map]
  exact Nat.le_trans (List.length_filter_le _ _) this
theorem labels_ev {code : Cod} (hk : OkK code) (a : Int) : Ev (fun k => labels38 k code.2.2 a) (atL code a, ()) := by
  have hlb := hk.labs
  unfold labels38
  have := Lp.fold (body := fun k => labels38.l0 k code.2.2 a) code.2.2 (fun (b : List ByteArray) i => ((), i, b)) (fun b x => if x.2 == a then b ++ [x.1] else b) (fun b => ((), b)) (fun i b => b.length ≤ i)
    (fun i x b hx hb => by
      have hi := get_lt hx
      refine ⟨?_, ?_⟩
      · simp only [labels38.l0]
        refine .yes (decide_eq_true (by omega)) (.val (rd_some' hx) (.bind (a := ((), if x.2 == a then b ++ [x.1] else b)) ?_ (.now' ?_)))
        · cases hq : (x.2 == a) with
          | true => exact .yes rfl (.val (if_pos (room_ok (by rw [List.length_singleton]; omega))) (.now _))
          | false => exact .no rfl (.now _)
        · rw [w64_id (by omega) (by omega)]
      · split
        · rw [List.length_append, List.length_singleton]; omega
        · omega) (fun b hb => by
      simp only [labels38.l0]
      exact .no (by simp) (.now _)) (b := []) (Nat.le_refl _)
  rw [foldl_if (fun (x : Lb) => x.2 == a) (fun x => x.1), List.nil_append] at this
  exact .bind this.ev (.now _)
theorem named_p {code : Cod} (hk : OkK code) (a : Int) (o : List ByteArray) (ho : o.length ≤ 100000) : Ev (fun k => List137 k a code () () o) ((), (), o ++ labsA code a) := by
  unfold List137
  have hl : (atL code a).length ≤ 20 := by
    have := labsA_len hk a
    unfold labsA at this
    unfold atL
    rw [List.length_map] at this ⊢
    exact this
  have := Lp.fold (body := fun k => List137.l0 k (atL code a, ())) (atL code a) (fun (b : List ByteArray) i => ((), i, (), b)) (fun b x => b ++ [x ++ mkB [58]]) (fun b => ((), b)) (fun i b => b.length ≤ 100000 + i)
    (fun i x b hx hb => by
      have hi := get_lt hx
      have hsz : x.size ≤ 140737488351232 := by
        obtain ⟨y, hy, rfl⟩ := List.mem_map.1 (get_mem hx)
        exact (hk.lab y (List.mem_filter.1 hy).1).1
      refine ⟨?_, by rw [List.length_append, List.length_singleton]; omega⟩
      simp only [List137.l0]
      refine .yes (decide_eq_true (by omega)) (.val (rd_some' hx) (.val (cat_ok (b := mkB [58]) (by rw [mkB_size]; show x.size + 1 ≤ _; omega)) (.val (if_pos (room_ok (by rw [List.length_singleton]; omega))) (.now' ?_))))
      rw [w64_id (by omega) (by omega)]) (fun b hb => by
      simp only [List137.l0]
      exact .no (by simp) (.now _)) (b := o) (by omega)
  rw [foldl_snoc (fun (x : ByteArray) => x ++ mkB [58])] at this
  refine .bind (labels_ev hk a) (.bind this.ev (.now' ?_))
  unfold labsA atL
  rw [List.map_map]
  rfl
def orgA (code : Cod) : ByteArray := mkB ([111, 114, 103, 32] ++ Lib.itoa code.1)
def partA (code : Cod) (x : Lin) : List ByteArray := labsA code x.1 ++ [x.2.2]
def listA (code : Cod) (L : List Lin) : List ByteArray := [orgA code] ++ L.flatMap (partA code) ++ labsA code (code.1 + (code.2.1.length : Int))
theorem org_ev {code : Cod} (hk : OkK code) : ∀ {β : Type} {g : Nat → ByteArray → Option β} {v : β}, Ev (fun k => g k (orgA code)) v → Ev (fun k => (Itoa36 k code.1).bind fun t11 => (catS (ByteArray.mk #[111, 114, 103, 32]) t11.1).bind (g k)) v := by
  intro β g v h
  have hb := hk.base
  have hl := itoa_len (n := code.1) (by omega)
  exact .bind (itoa_ev (by omega)) (.val (cat_mk (a := [111, 114, 103, 32]) (by simp; omega)) h)
theorem flat_snoc {α β : Type} (g : α → List β) : ∀ (l : List α) (o : List β), l.foldl (fun o x => o ++ g x) o = o ++ l.flatMap g
  | [], o => by simp
  | x :: l, o => by rw [List.foldl_cons, flat_snoc g l]; simp
theorem part_len {code : Cod} (hk : OkK code) (x : Lin) : (partA code x).length ≤ 21 := by
  have := labsA_len hk x.1
  unfold partA
  rw [List.length_append, List.length_singleton]; omega
theorem lines_len {c : Cpu} {code : Cod} (hk : OkK code) : (linesF c code 0).length ≤ 300 := by
  have := hk.len
  have h := linesG_len (c := c) (code := code) code.2.1.length 0
  unfold linesF
  omega
theorem listP_ev {c : Cpu} (hc : Wc c) (ho : Ok1 c) {code : Cod} (hk : OkK code) : Ev (fun k => List13 k c code) (listA code (linesF c code 0), ()) := by
  have hb := hk.base
  have hl := hk.len
  have hL := lines_len (c := c) hk
  have hP := linesP_ev hc ho hk
  generalize linesF c code 0 = L at hL hP
  unfold List13
  refine org_ev hk (.bind hP ?_)
  have := Lp.fold (body := fun k => List13.l0 k (L, ())) L (fun (b : List ByteArray) i => (code, (), (code, (), ()), i, b, ())) (fun b x => b ++ partA code x) (fun b => (code, (), (code, (), ()), b, ())) (fun i b => b.length ≤ 1 + 21 * i)
    (fun i x b hx hb => by
      have hi := get_lt hx
      have h21 := part_len hk x
      have h20 := labsA_len hk x.1
      refine ⟨?_, by rw [List.length_append]; omega⟩
      simp only [List13.l0]
      refine .yes (decide_eq_true (by omega)) (.val (rd_some' hx) (.bind (named_p hk x.1 b (by omega)) (.val (if_pos (room_ok ?_)) (.now' ?_))))
      · show ((b ++ labsA code x.1).length + 1) * 16 ≤ _
        rw [List.length_append]; omega
      · rw [w64_id (by omega) (by omega)]
        unfold partA
        rw [List.append_assoc]) (fun b hb => by
      simp only [List13.l0]
      exact .no (by simp) (.now _)) (b := [orgA code]) (Nat.le_refl _)
  rw [flat_snoc] at this
  refine .bind this.ev ?_
  show Ev (fun k => (List137 k (w64 (code.1 + (code.2.1.length : Int))) code () () ([orgA code] ++ L.flatMap (partA code))).bind _) _
  rw [w64_id (by omega) (by omega)]
  refine .bind (named_p hk _ _ ?_) (.now _)
  have : (L.flatMap (partA code)).length ≤ 21 * L.length := by
    clear this hP hL
    induction L with
    | nil => exact Nat.le_refl _
    | cons x L ih =>
      have := part_len hk x
      rw [List.flatMap_cons, List.length_append, List.length_cons]; omega
  rw [List.length_append, List.length_singleton]; omega
theorem inner_r {code : Cod} (hk : OkK code) (x : Lin) (o2 : List Lin) (o : List ByteArray) (ho : o.length ≤ 100000) : Gp.Lp (fun k => List14.l0 k code) (code, (), (), x, (), 0, o, o2) (code, (), (), x, (), o ++ labsA code x.1, o2) := by
  have hlb := hk.labs
  have := Lp.fold (body := fun k => List14.l0 k code) code.2.2 (fun (b : List ByteArray) i => (code, (), (), x, (), i, b, o2)) (fun b y => if y.2 == x.1 then b ++ [y.1 ++ mkB [58]] else b) (fun b => (code, (), (), x, (), b, o2)) (fun i b => b.length ≤ 100000 + i)
    (fun i y b hx hb => by
      have hi := get_lt hx
      have hsz := (hk.lab y (get_mem hx)).1
      refine ⟨?_, ?_⟩
      · simp only [List14.l0]
        refine .yes (decide_eq_true (by omega)) (.val (rd_some' hx) (.bind (a := (code, (), (), x, (), if y.2 == x.1 then b ++ [y.1 ++ mkB [58]] else b, o2)) ?_ (.now' ?_)))
        · cases hq : (y.2 == x.1) with
          | true => exact .yes rfl (.val (cat_ok (b := mkB [58]) (by rw [mkB_size]; show y.1.size + 1 ≤ _; omega)) (.val (if_pos (room_ok (by rw [List.length_singleton]; omega))) (.now _)))
          | false => exact .no rfl (.now _)
        · rw [w64_id (by omega) (by omega)]
      · split
        · rw [List.length_append, List.length_singleton]; omega
        · omega) (fun b hb => by
      simp only [List14.l0]
      exact .no (by simp) (.now _)) (b := o) (by omega)
  rw [foldl_if (fun (y : Lb) => y.2 == x.1) (fun y => y.1 ++ mkB [58])] at this
  exact this
theorem listR_ev {c : Cpu} (hc : Wc c) (ho : Ok1 c) {code : Cod} (hk : OkK code) : Ev (fun k => List14 k c code) (listA code (linesF c code 0), ()) := by
  have hb := hk.base
  have hl := hk.len
  have hL := lines_len (c := c) hk
  have hP := linesR_ev' hc ho hk
  generalize linesF c code 0 = L at hL hP
  have hw : w64 (code.1 + (code.2.1.length : Int)) = code.1 + (code.2.1.length : Int) := w64_id (by omega) (by omega)
  have hone : Ev (fun k => (Lines11' k c code).bind fun t18 => (if room (List.length t18.2 + List.length ([(code.1 + (code.2.1.length : Int), [], (ByteArray.mk #[]))] : List Lin)) 48 then some () else none).bind fun _ =>
      some (code, (), (), [orgA code], (t18.2 ++ ([(code.1 + (code.2.1.length : Int), [], (ByteArray.mk #[]))] : List Lin)))) (code, (), (), [orgA code], L ++ [(code.1 + (code.2.1.length : Int), [], ByteArray.mk #[])]) :=
    .bind hP (.val (if_pos (room_ok (by show (L.length + 1) * 48 ≤ _; omega))) (.now _))
  unfold List14
  refine org_ev hk (.bind (a := (code, (), (), [orgA code], L ++ [(code.1 + (code.2.1.length : Int), [], ByteArray.mk #[])])) ?_ ?_)
  · rw [hw]
    exact Ev.agr hone hone
  · have hall : ∀ (i : Nat) (x : Lin), (L ++ [((code.1 + (code.2.1.length : Int), [], ByteArray.mk #[]) : Lin)])[i]? = some x → rd (L ++ [((code.1 + (code.2.1.length : Int), [], ByteArray.mk #[]) : Lin)]) (i : Int) = some x := fun i x h => rd_some' h
    have hlen : (((L ++ [((code.1 + (code.2.1.length : Int), [], ByteArray.mk #[]) : Lin)]).length : Nat) : Int) = (L.length : Int) + 1 := by simp
    have hwl : w64 ((((L ++ [((code.1 + (code.2.1.length : Int), [], ByteArray.mk #[]) : Lin)]).length : Nat) : Int) - 1) = (L.length : Int) := by rw [hlen, w64_id (by omega) (by omega)]; omega
    have key : ∀ (suf pre : List Lin), L = pre ++ suf → ∀ o : List ByteArray, o.length ≤ 1 + 21 * pre.length →
        Gp.Lp (fun k => List14.l1 k (L ++ [((code.1 + (code.2.1.length : Int), [], ByteArray.mk #[]) : Lin)])) (code, (), (), (), (pre.length : Int), o, L ++ [((code.1 + (code.2.1.length : Int), [], ByteArray.mk #[]) : Lin)]) ((), o ++ suf.flatMap (partA code) ++ labsA code (code.1 + (code.2.1.length : Int))) := by
      intro suf
      induction suf with
      | nil =>
        intro pre h o hol
        rw [List.append_nil] at h
        subst h
        have hx : (L ++ [((code.1 + (code.2.1.length : Int), [], ByteArray.mk #[]) : Lin)])[L.length]? = some (code.1 + (code.2.1.length : Int), [], ByteArray.mk #[]) := by simp
        have hin := inner_r hk (code.1 + (code.2.1.length : Int), [], ByteArray.mk #[]) (L ++ [((code.1 + (code.2.1.length : Int), [], ByteArray.mk #[]) : Lin)]) o (by omega)
        refine .step (s' := (code, (), (), (), ((L.length + 1 : Nat) : Int), o ++ labsA code (code.1 + (code.2.1.length : Int)), L ++ [((code.1 + (code.2.1.length : Int), [], ByteArray.mk #[]) : Lin)])) ?_ (.done ?_)
        · simp only [List14.l1]
          refine .yes (decide_eq_true (by omega)) (.val (hall _ _ hx) (.val (hall _ _ hx) (.bind hin.ev (.bind (a := (code, (), (), (), o ++ labsA code (code.1 + (code.2.1.length : Int)), L ++ [((code.1 + (code.2.1.length : Int), [], ByteArray.mk #[]) : Lin)])) (.no (decide_eq_false ?_) (.now _)) (.now' ?_)))))
          · show ¬ (L.length : Int) < w64 ((((L ++ [((code.1 + (code.2.1.length : Int), [], ByteArray.mk #[]) : Lin)]).length : Nat) : Int) - 1)
            rw [hwl]; omega
          · rw [w64_id (by omega) (by omega)]
            simp
        · simp only [List14.l1]
          refine .no (decide_eq_false (by rw [hlen]; omega)) (.now' ?_)
          simp
      | cons x suf ih =>
        intro pre h o hol
        have hx : (L ++ [((code.1 + (code.2.1.length : Int), [], ByteArray.mk #[]) : Lin)])[pre.length]? = some x := by rw [h]; simp
        have hpl : pre.length < L.length := by rw [h]; simp
        have hin := inner_r hk x (L ++ [((code.1 + (code.2.1.length : Int), [], ByteArray.mk #[]) : Lin)]) o (by omega)
        have h20 := labsA_len hk x.1
        have ih := ih (pre ++ [x]) (by rw [h]; simp) (o ++ partA code x) (by have := part_len hk x; rw [List.length_append, List.length_append, List.length_singleton]; omega)
        have e : o ++ (x :: suf).flatMap (partA code) = o ++ partA code x ++ suf.flatMap (partA code) := by rw [List.flatMap_cons, List.append_assoc]
        rw [e]
        refine .step ?_ ih
        simp only [List14.l1]
        refine .yes (decide_eq_true (by rw [hlen]; omega)) (.val (hall _ _ hx) (.val (hall _ _ hx) (.bind hin.ev (.bind (a := (code, (), (), (), o ++ partA code x, L ++ [((code.1 + (code.2.1.length : Int), [], ByteArray.mk #[]) : Lin)])) (.yes (decide_eq_true ?_) (.val (if_pos (room_ok ?_)) (.now' ?_))) (.now' ?_)))))
        · show (pre.length : Int) < w64 ((((L ++ [((code.1 + (code.2.1.length : Int), [], ByteArray.mk #[]) : Lin)]).length : Nat) : Int) - 1)
          rw [hwl]; omega
        · show ((o ++ labsA code x.1).length + 1) * 16 ≤ _
          rw [List.length_append]; omega
        · unfold partA
          rw [List.append_assoc]
        · rw [w64_id (by omega) (by omega)]
          simp
    exact .bind (key L [] rfl [orgA code] (Nat.le_refl _)).ev (.now _)
-- names
def nameA (c : Cpu) (x : Lin) : List ByteArray := match findI c (x.2.1.getD 0 0) with
  | some y => if x.2.1.length = lenI y then [y.2.1] else []
  | none => []
theorem name_len (c : Cpu) (x : Lin) : (nameA c x).length ≤ 1 := by
  unfold nameA
  split
  · split
    · exact Nat.le_refl 1
    · exact Nat.zero_le 1
  · exact Nat.zero_le 1
structure OkX (x : Lin) : Prop where
  len : 1 ≤ x.2.1.length ∧ x.2.1.length ≤ 300
  byte : 0 ≤ x.2.1.getD 0 0 ∧ x.2.1.getD 0 0 < 256
theorem linesG_ok {c : Cpu} {code : Cod} (hk : OkK code) : ∀ f i, ∀ x ∈ linesG c code f i, OkX x
  | 0, i, x, h => by cases h
  | f + 1, i, x, h => by
    unfold linesG at h
    split at h
    · rename_i hi
      rcases List.mem_cons.1 h with rfl | h
      · obtain ⟨n1, n2, n3⟩ := nA_ok (c := c) hi
        have hr := rowA_len hi
        obtain ⟨b1, b2⟩ := row_ok hk i
        have hl : ((rowA code i).take (nA c code i)).length = nA c code i := by rw [List.length_take]; omega
        refine ⟨⟨?_, ?_⟩, ?_⟩
        · show 1 ≤ ((rowA code i).take (nA c code i)).length
          omega
        · show ((rowA code i).take (nA c code i)).length ≤ 300
          omega
        · show 0 ≤ ((rowA code i).take (nA c code i)).getD 0 0 ∧ ((rowA code i).take (nA c code i)).getD 0 0 < 256
          rw [List.getD_eq_getElem?_getD]
          cases hq : ((rowA code i).take (nA c code i))[0]? with
          | none => exact ⟨by decide, by decide⟩
          | some y => exact b1 y (List.mem_of_mem_take (get_mem hq))
      · exact linesG_ok hk f _ x h
    · cases h
theorem names_fold {S R : Type} {c : Cpu} (L : List Lin) (hL : L.length ≤ 300) {body : Nat → S → Option (S ⊕ R)} (st : List ByteArray → Int → S) (fin : List ByteArray → R)
    (hs : ∀ (i : Nat) x (b : List ByteArray), L[i]? = some x → b.length ≤ 300 → Ev (fun k => body k (st b i)) (.inl (st (b ++ nameA c x) ((i : Int) + 1)))) (hd : ∀ b, Ev (fun k => body k (st b L.length)) (.inr (fin b))) : Gp.Lp body (st [] 0) (fin (L.flatMap (nameA c))) := by
  have := Lp.fold (body := body) L st (fun b x => b ++ nameA c x) fin (fun i b => b.length ≤ i) (fun i x b hx hb => by
    have hi := get_lt hx
    have := name_len c x
    exact ⟨hs i x b hx (by omega), by rw [List.length_append]; omega⟩) (fun b hb => hd b) (b := []) (Nat.le_refl _)
  rw [flat_snoc, List.nil_append] at this
  exact this
theorem namesP_ev {c : Cpu} (hc : Wc c) (ho : Ok1 c) {code : Cod} (hk : OkK code) : Ev (fun k => Names15 k c code) ((linesF c code 0).flatMap (nameA c), ()) := by
  have hL := lines_len (c := c) hk
  have hP := linesP_ev hc ho hk
  have hX : ∀ x ∈ linesF c code 0, OkX x := linesG_ok hk _ _
  generalize linesF c code 0 = L at hL hP hX
  unfold Names15
  refine .bind hP (.bind (names_fold (c := c) L hL (body := fun k => Names15.l0 k (L, ())) (fun b i => (c, (), i, b)) (fun b => ((), b)) (fun i x b hx hb => ?_) (fun b => ?_)).ev (.now _))
  · have hi := get_lt hx
    obtain ⟨⟨l1, l2⟩, b1, b2⟩ := hX x (get_mem hx)
    have hf := find_ev hc (x.2.1.getD 0 0)
    have hw : w64 (x.2.1.getD 0 0) = x.2.1.getD 0 0 := w64_id (by omega) (by omega)
    have hwi : w64 ((i : Int) + 1) = (i : Int) + 1 := w64_id (by omega) (by omega)
    have hrd : rd x.2.1 0 = some (x.2.1.getD 0 0) := rd_getD (i := 0) (by omega)
    simp only [Names15.l0]
    refine .yes (decide_eq_true (by omega)) (.val (rd_some' hx) ?_)
    unfold nameA
    cases h2 : findI c (x.2.1.getD 0 0) with
    | none =>
      rw [show findR c (x.2.1.getD 0 0) = (none4, false, ()) from by unfold findR; rw [h2]] at hf
      refine .bind (a := (c, (), x, none4, false, b)) (.val hrd ?_) (.bind (a := false) (.no rfl (.now _)) (.bind (a := (c, (), b)) (.no rfl (.now _)) (.now' ?_)))
      · rw [hw]
        exact Ev.agr (.bind hf (.now _)) (.bind hf (.now _))
      · rw [hwi, List.append_nil]
    | some y =>
      rw [show findR c (x.2.1.getD 0 0) = (y, true, ()) from by unfold findR; rw [h2]] at hf
      have hy := ho.ins y (findI_mem h2)
      have hsz := sizeV_le y.2.2.1
      have hw1 : w64 (1 + (sizeV y.2.2.1 : Int)) = (lenI y : Int) := by unfold lenI; rw [w64_id (by omega) (by omega)]; omega
      refine .bind (a := (c, (), x, y, true, b)) (.val hrd ?_) (.bind (a := decide (x.2.1.length = lenI y)) (.yes rfl (.bind (size_ev hy.mode) (.now' ?_))) ?_)
      · rw [hw]
        exact Ev.agr (.bind hf (.now _)) (.bind hf (.now _))
      · show ((x.2.1.length : Int) == w64 (1 + (sizeV y.2.2.1 : Int))) = _
        rw [hw1]
        by_cases h : x.2.1.length = lenI y
        · rw [decide_eq_true h, h]; simp
        · rw [decide_eq_false h]
          exact beq_false_of_ne (by omega)
      · by_cases h : x.2.1.length = lenI y
        · simp only [if_pos h]
          refine .bind (a := (c, (), b ++ [y.2.1])) (.yes (decide_eq_true h) (.val (if_pos (room_ok (by rw [List.length_singleton]; omega))) (.now _))) (.now' ?_)
          rw [hwi]
        · simp only [if_neg h]
          refine .bind (a := (c, (), b)) (.no (decide_eq_false h) (.now _)) (.now' ?_)
          rw [hwi, List.append_nil]
  · simp only [Names15.l0]
    exact .no (by simp) (.now _)
theorem namesR_ev {c : Cpu} (hc : Wc c) (ho : Ok1 c) {code : Cod} (hk : OkK code) : Ev (fun k => Names16 k c code) ((linesF c code 0).flatMap (nameA c), ()) := by
  have hL := lines_len (c := c) hk
  have hP := linesR_ev hc ho hk
  have hX : ∀ x ∈ linesF c code 0, OkX x := linesG_ok hk _ _
  generalize linesF c code 0 = L at hL hP hX
  unfold Names16 operands40
  refine .bind (.now _) (.bind hP (.bind (names_fold (c := c) L hL (fun b i => (c, (), i, b)) (fun b => ((), b)) (fun i x b hx hb => ?_) (fun b => ?_)).ev (.now _)))
  · have hi := get_lt hx
    obtain ⟨⟨l1, l2⟩, b1, b2⟩ := hX x (get_mem hx)
    have hf := with_ev hc (x.2.1.getD 0 0)
    have hw : w64 (x.2.1.getD 0 0) = x.2.1.getD 0 0 := w64_id (by omega) (by omega)
    have hwi : w64 ((i : Int) + 1) = (i : Int) + 1 := w64_id (by omega) (by omega)
    have hrd : rd x.2.1 0 = some (x.2.1.getD 0 0) := rd_getD (i := 0) (by omega)
    simp only [Names16.l0]
    refine .yes (decide_eq_true (by omega)) (.val (rd_some' hx) ?_)
    unfold nameA
    cases h2 : findI c (x.2.1.getD 0 0) with
    | none =>
      rw [show findR c (x.2.1.getD 0 0) = (none4, false, ()) from by unfold findR; rw [h2]] at hf
      refine .bind (a := (c, (), x, none4, false, b)) (.val hrd ?_) (.bind (a := false) (.no rfl (.now _)) (.bind (a := (c, (), b)) (.no rfl (.now _)) (.now' ?_)))
      · rw [hw]
        exact Ev.agr (.bind hf (.now _)) (.bind hf (.now _))
      · rw [hwi, List.append_nil]
    | some y =>
      rw [show findR c (x.2.1.getD 0 0) = (y, true, ()) from by unfold findR; rw [h2]] at hf
      have hy := ho.ins y (findI_mem h2)
      have hsz := sizeV_le y.2.2.1
      have hw1 : w64 (1 + (sizeV y.2.2.1 : Int)) = (lenI y : Int) := by unfold lenI; rw [w64_id (by omega) (by omega)]; omega
      refine .bind (a := (c, (), x, y, true, b)) (.val hrd ?_) (.bind (a := decide (x.2.1.length = lenI y)) (.yes rfl (.val (size_rd hy.mode) (.now' ?_))) ?_)
      · rw [hw]
        exact Ev.agr (.bind hf (.now _)) (.bind hf (.now _))
      · show ((x.2.1.length : Int) == w64 (1 + (sizeV y.2.2.1 : Int))) = _
        rw [hw1]
        by_cases h : x.2.1.length = lenI y
        · rw [decide_eq_true h, h]; simp
        · rw [decide_eq_false h]
          exact beq_false_of_ne (by omega)
      · by_cases h : x.2.1.length = lenI y
        · simp only [if_pos h]
          refine .bind (a := (c, (), b ++ [y.2.1])) (.yes (decide_eq_true h) (.val (if_pos (room_ok (by rw [List.length_singleton]; omega))) (.now _))) (.now' ?_)
          rw [hwi]
        · simp only [if_neg h]
          refine .bind (a := (c, (), b)) (.no (decide_eq_false h) (.now _)) (.now' ?_)
          rw [hwi, List.append_nil]
  · simp only [Names16.l0]
    exact .no (by simp) (.now _)
end Go.Proofs.YtcppmlgnceldmaaGreatDoor.Di

/- Listings: a fact about the museum's processor; the law. No program in sight. -/
set_option linter.unusedVariables false
set_option maxRecDepth 100000
noncomputable section
namespace Go.Proofs.YtcppmlgnceldmaaGreatDoor.Di
open Go Go.Proofs.YtcppmlgnceldmaaGreatDoor.Gp

theorem check8_ok {c : Cpu} (hc : Wc c) (hn : Wn c) : ∃ e : Int, Ev (fun k => Check6 k c) (e, ()) ∧ (e = 0 → Ok1 c) := by
  obtain ⟨v, hv, hp⟩ := check_ok hc hn
  exact ⟨v.1, hv, fun h => ⟨hp h, hn.2⟩⟩
def jmpI : Ins := match findI cpuV (nopB.getD 1 0) with | some x => x | none => none4
def toldB : Bool := isS (findI cpuV (nopB.getD 1 0)) && streq jmpI.2.1 (ByteArray.mk #[106, 109, 112]) && (jmpI.2.2.1 == 4)
theorem told_true : toldB = true := by kernel_rfl
def okZ (o : Option (Int × Unit)) : Bool := match o with | some v => v.1 == 0 | none => false
theorem cpu_okZ : okZ (Check6 400 cpuV) = true := by kernel_rfl
theorem cpu_ok1 : Ok1 cpuV := by
  obtain ⟨e, h1, h2⟩ := check8_ok cpu_wc cpu_wn
  refine h2 ?_
  have hz := cpu_okZ
  cases hv : Check6 400 cpuV with
  | none => rw [hv] at hz; cases hz
  | some v =>
    rw [hv] at hz
    have hz : v.1 = 0 := by simpa [okZ] using hz
    have := Ev.one h1 (Mono.ev (Check6.mono _) hv)
    rw [← hz, ← this]
theorem itoa512 : Lib.itoa 512 = [53, 49, 50] := by
  unfold Lib.itoa
  rw [if_neg (by decide), show (512 : Int).toNat = 512 from rfl]
  rw [Lib.decDigits, dif_neg (by decide), show 512 / 10 = 51 from rfl, Lib.decDigits, dif_neg (by decide), show 51 / 10 = 5 from rfl, Lib.decDigits, dif_pos (by decide)]
  rfl
theorem told_ev : Ev (fun k => told5 k) (true, ()) := by
  have hl := told_true
  unfold toldB at hl
  rw [Bool.and_eq_true, Bool.and_eq_true] at hl
  obtain ⟨⟨l1, l2⟩, l3⟩ := hl
  obtain ⟨x, hx⟩ := isS_some l1
  have hj : jmpI = x := by unfold jmpI; rw [hx]
  rw [hj] at l2 l3
  have l2 := streq_iff.1 l2
  have l3 : x.2.2.1 = 4 := by simpa using l3
  have hb : ∀ y ∈ nopB.drop 1, 0 ≤ y ∧ y < 256 := by
    intro y hy
    have hy : y ∈ [IntKind.wrap .u8 (namedR cpuV (ByteArray.mk #[106, 109, 112]) 4).1.1, 0, 2] := hy
    simp only [List.mem_cons, List.not_mem_nil, or_false] at hy
    rcases hy with rfl | rfl | rfl
    · exact wrap8 _
    · decide
    · decide
  have hO := one_p cpu_wc cpu_ok1 hb (by decide) 513
  have hd : nopB.drop 1 = nopB.getD 1 0 :: [0, 2] := rfl
  have e : oneA cpuV (nopB.drop 1) 513 = (mkB [106, 109, 112, 32, 53, 49, 50], 3, ()) := by
    rw [hd, oneA_some hx (by unfold lenI; rw [l3]; decide)]
    unfold textA lenI
    rw [l2, l3]
    have : (4 : Int).toNat = 4 := rfl
    rw [this]
    have hv : vA (nopB.getD 1 0 :: [0, 2]) (sizeV 4) = 512 := rfl
    rw [hv]
    show ((mkB [106, 109, 112] ++ mkB (opdL 4 (Lib.itoa 512)) : ByteArray), ((1 + sizeV 4 : Nat) : Int), ()) = _
    rw [itoa512, mkB_app]
    rfl
  rw [e] at hO
  unfold told5
  refine .bind cpu_ev (.bind nop_ev (.val (a := nopB.drop 1) ?_ (.bind hO (.now' ?_))))
  · exact slc_tail (l := nopB) (a := 1) (by decide)
  · show (cond (streq (mkB [106, 109, 112, 32, 53, 49, 50]) (ByteArray.mk #[106, 109, 112, 32, 53, 49, 50])) (3 == 3) false, ()) = (true, ())
    rw [show streq (mkB [106, 109, 112, 32, 53, 49, 50]) (ByteArray.mk #[106, 109, 112, 32, 53, 49, 50]) = true from streq_refl _]
    rfl
theorem eqI_refl (l : List Int) (hl : l.length ≤ 100000) : Ev (fun k => Equal8 k l l) (true, ()) := by
  have : Gp.Lp (fun k => Equal8.l0 k l l) (0 : Int) (.inl ()) := by
    refine Lp.fold (body := fun k => Equal8.l0 k l l) l (fun (_ : Unit) i => i) (fun _ _ => ()) (fun _ => .inl ()) (fun _ _ => True) (fun i x b hx _ => ⟨?_, trivial⟩) (fun b _ => ?_) (b := ()) trivial
    · have hi := get_lt hx
      simp only [Equal8.l0]
      refine .yes (decide_eq_true (by omega)) (.val (rd_some' hx) (.val (rd_some' hx) (.no (by simp) (.now' ?_))))
      rw [w64_id (by omega) (by omega)]
    · simp only [Equal8.l0]
      exact .no (by simp) (.now _)
  unfold Equal8
  exact .no (by simp) (.joinL (S := Unit) this.ev (.now _))
theorem eqB_refl' (l : List ByteArray) (hl : l.length ≤ 100000) : Ev (fun k => Equal12 k l l) (true, ()) := by
  have : Gp.Lp (fun k => Equal12.l0 k l l) (0 : Int) (.inl ()) := by
    refine Lp.fold (body := fun k => Equal12.l0 k l l) l (fun (_ : Unit) i => i) (fun _ _ => ()) (fun _ => .inl ()) (fun _ _ => True) (fun i x b hx _ => ⟨?_, trivial⟩) (fun b _ => ?_) (b := ()) trivial
    · have hi := get_lt hx
      simp only [Equal12.l0]
      refine .yes (decide_eq_true (by omega)) (.val (rd_some' hx) (.val (rd_some' hx) (.no (by rw [streq_refl]; rfl) (.now' ?_))))
      rw [w64_id (by omega) (by omega)]
    · simp only [Equal12.l0]
      exact .no (by simp) (.now _)
  unfold Equal12
  exact .no (by simp) (.joinL (S := Unit) this.ev (.now _))
theorem sameL_ev (x : Lin) (hx : x.2.1.length ≤ 300) : Ev (fun k => DisLists17 k x x) (true, ()) := by
  unfold DisLists17
  refine .bind (a := true) (.yes (by simp) (.bind (eqI_refl _ (by omega)) (.now _))) (.now' ?_)
  rw [streq_refl]; rfl
theorem eqL_refl (l : List Lin) (hl : l.length ≤ 300) (hx : ∀ x ∈ l, x.2.1.length ≤ 300) : Ev (fun k => EqualFunc9 k l l ()) (true, ()) := by
  have : Gp.Lp (fun k => EqualFunc9.l0 k l l) ((), (0 : Int)) (.inl ()) := by
    refine Lp.fold (body := fun k => EqualFunc9.l0 k l l) l (fun (_ : Unit) i => ((), i)) (fun _ _ => ()) (fun _ => .inl ()) (fun _ _ => True) (fun i x b h _ => ⟨?_, trivial⟩) (fun b _ => ?_) (b := ()) trivial
    · have hi := get_lt h
      simp only [EqualFunc9.l0]
      refine .yes (decide_eq_true (by omega)) (.val (rd_some' h) (.val (rd_some' h) (.bind (sameL_ev x (hx x (get_mem h))) (.no rfl (.now' ?_)))))
      rw [w64_id (by omega) (by omega)]
    · simp only [EqualFunc9.l0]
      exact .no (by simp) (.now _)
  unfold EqualFunc9
  exact .no (by simp) (.joinL (S := Unit) this.ev (.now _))
theorem flat_len {α β : Type} {g : α → List β} {n : Nat} (h : ∀ x, (g x).length ≤ n) : ∀ (l : List α), (l.flatMap g).length ≤ n * l.length
  | [] => Nat.le_refl _
  | x :: l => by
    have h1 := flat_len h l
    have h2 := h x
    rw [List.flatMap_cons, List.length_append, List.length_cons, Nat.mul_add]; omega
theorem law_lists (c : Cpu) (code : Cod) (hc : Wc c) (hn : Wn c) (hb : ∀ y ∈ code.2.1, 0 ≤ y ∧ y < 256) (hlb : ∀ x ∈ code.2.2, x.1.size ≤ 140737488351232 ∧ -9223372036854775808 ≤ x.2 ∧ x.2 ≤ 9223372036854775807) : ∃ k, DisLists3 k c code = some (true, ()) := by
  refine Ev.ex ?_
  obtain ⟨e, h1, h2⟩ := check8_ok hc hn
  unfold DisLists3
  by_cases he : e = 0
  · subst he
    have ho := h2 rfl
    refine .bind told_ev (.bind (a := false) (.no rfl (.bind h1 (.now _))) ?_)
    by_cases h3 : (code.2.1.length : Int) > 300
    · refine .yes ?_ (.bind told_ev (.now _))
      rw [decide_eq_true h3]; rfl
    · by_cases h4 : (code.2.2.length : Int) > 20
      · refine .yes ?_ (.bind told_ev (.now _))
        rw [decide_eq_false h3, decide_eq_true h4]; rfl
      · refine .no ?_ ?_
        · rw [decide_eq_false h3, decide_eq_false h4]; rfl
        · have hm := mm_bounds (-1099511627776) 1099511627776 code.1 (by decide)
          have hk : OkK (mxI (-1099511627776) (mnI code.1 1099511627776), code.2) := ⟨hm, by show code.2.1.length ≤ 300; omega, by show code.2.2.length ≤ 20; omega, hb, hlb⟩
          generalize (mxI (-1099511627776) (mnI code.1 1099511627776), code.2) = cd at hk
          have hL := lines_len (c := c) hk
          have hX : ∀ x ∈ linesF c cd 0, OkX x := linesG_ok hk _ _
          refine .bind (linesP_ev hc ho hk) (.bind (linesR_ev hc ho hk) (.bind (eqL_refl _ hL fun x hx => (hX x hx).len.2) (.bind (a := true) (.yes rfl (.bind (listP_ev hc ho hk) (.bind (listR_ev hc ho hk) (.bind (eqB_refl' _ ?_) (.now _))))) (.bind (a := true) (.yes rfl (.bind (namesP_ev hc ho hk) (.bind (namesR_ev hc ho hk) (.bind (eqB_refl' _ ?_) (.now _))))) (.now _)))))
          · have g1 := flat_len (part_len hk) (linesF c cd 0)
            have g2 := labsA_len hk (cd.1 + (cd.2.1.length : Int))
            show (listA cd (linesF c cd 0)).length ≤ 100000
            unfold listA
            rw [List.length_append, List.length_append, List.length_singleton]
            omega
          · have g1 := flat_len (name_len c) (linesF c cd 0)
            show ((linesF c cd 0).flatMap (nameA c)).length ≤ 100000
            omega
  · exact .bind told_ev (.bind (a := true) (.no rfl (.bind h1 (.now' (bne_iff_ne.2 he)))) (.yes rfl (.bind told_ev (.now _))))
theorem disLists (c : Cpu) (code : Cod) (hc : WfCpu c) (hcode : (Lit.int .i64 code.1).wf = true ∧ wfL (α := Int) 1 (fun y => (Lit.int .u8 y).wf = true) code.2.1 ∧ wfL (α := Lb) 24 (fun y => y.1.size ≤ 140737488351232 ∧ (Lit.int .i64 y.2).wf = true) code.2.2) : ∃ k, DisLists3 k c code = some (true, ()) :=
  law_lists c code (wc_row hc).1 (wc_row hc).2 (fun x hx => lit8 (hcode.2.1.2 x hx)) (fun x hx => ⟨(hcode.2.2.2 x hx).1, lit_wf (hcode.2.2.2 x hx).2⟩)
end Go.Proofs.YtcppmlgnceldmaaGreatDoor.Di

/- The wrap of a row whose listed variables read as told, the world's shape kept. -/
namespace Go.Proofs.YtcppmlgnceldmaaGreatDoor.Gp
open Go
noncomputable section
def litV : Lit → Value
  | .int k n => .int k n
  | .bool b => .bool b
  | .string l => .string ⟨l.toArray⟩
  | _ => .bool false
def c1 : DataW Unit → List Value
  | .lit x => [litV x]
  | _ => []
def c2 : DataW Unit → List Value
  | .agg l => l.flatMap c1
  | d => c1 d
def c3 : DataW Unit → List Value
  | .agg l => l.flatMap c2
  | d => c1 d
def putVar (P : Program) (h : Array Obj) (x : String × DataW Unit) : Array Obj := match P.globalNamed x.1 with
  | some g => h.modify g fun | .cells _ t frozen => .cells (c3 x.2).toArray t frozen | o => o
  | none => h
/-- a world in which the listed variables read as told -/
def laidWorld (P : Program) (laid : List (String × DataW Unit)) (os : Os) : World := { World.holding P os ⟨#[], #[], []⟩ with heap := laid.foldl (putVar P) (World.holding P os ⟨#[], #[], []⟩).heap }
end
variable {H : Type} {enc : TypeId × Value → H}
theorem returns_laid {a : Assume} {C : Checked} {os : Os} {f : FuncId} {fn : Func} {s : ChangeSpec} {conds : List PathCond} {apart fresh handsOn again : Bool} {X : World → Array Value → Prop}
    (hX : ∀ (w w' : World) (args : Array Value), w.heap = w'.heap → X w args → X w' args)
    (own : ownKnob C.prog.godebug = none) (started : os.Started) (noInit : C.prog.inits.idxOf? f = none) (hfn : C.prog.funcs[f]? = some fn)
    (witness : ∃ (w : World) (tape : Tape) (i : Input), w.os = os ∧ (w.forCall tape i).Shaped C.prog ∧ i.vars = [] ∧ Input.okWide C.prog (w.forCall tape i) .any w.heap.size f i ∧
      ((s.pre enc C.prog fn conds apart (w.forCall tape i).memory i.args ∧ X (w.forCall tape i).memory i.args) ∧ sizedMet enc C.prog fn (OpenSpec.ofChange s) apart (w.forCall tape i).memory i.args) ∧ a.holds C.prog (lone (Frame.enter C.prog f i.args .normal) [] (w.forCall tape i)))
    (contract : ∀ (W : World) (base : Nat) (args : Array Value) (ds gs : List (DataW H)) (before : List MemPlace),
      (∀ (j : Nat) t v, fn.params[j]? = some t → args[j]? = some v → Value.okWide C.prog W .any base t v) →
      DataW.Whole enc C.prog fn.params.toList s.vars apart W args.toList ds gs before →
      (DataW.weightsEach C.prog (fn.params.toList ++ s.plain.varTypes C.prog) (ds ++ gs)).all (· ≤ reachBytes) = true → X W args → W.ShapedOpen C.prog →
      Calls C.prog f args W fun e W' => ∃ v, e = .returned v ∧ s.post enc C.prog fn apart fresh handsOn again W args v W') :
    ReturnsInHanded a C os f .any (fun w args => (s.pre enc C.prog fn conds apart w args ∧ X w args) ∧ sizedMet enc C.prog fn (OpenSpec.ofChange s) apart w args) (s.post enc C.prog fn apart fresh handsOn again) := by
  refine returnsInHanded_of_calls own started noInit witness ?_
  intro w tape i _ hsh _ hok hpre hholds
  obtain ⟨_, _, _, fn', hfn', _, _, _, _, hval⟩ := hok
  have e : fn' = fn := Option.some.inj (hfn'.symm.trans hfn)
  subst e
  obtain ⟨⟨⟨ds, gs, before, hw, hc⟩, hx⟩, hz⟩ := hpre
  have hw' := DataW.Whole.of_heap (w' := w.forCall tape i) (by rfl) hw
  refine (contract (w.forCall tape i) w.heap.size i.args ds gs before hval hw' (hz.weights hw) (hX _ _ _ (by rfl) hx) hsh).mono fun e W' ⟨v, he, hp⟩ => ?_
  subst he
  exact ChangeSpec.post_blind hp
end Go.Proofs.YtcppmlgnceldmaaGreatDoor.Gp

/- The row of DisLists: Lines, List and Names return what the reference says for all right processors and programs. The law returns true for every input; the input reads as it did. -/
namespace Go.Proofs.YtcppmlgnceldmaaGreatDoor.disLists
open Go.ChangeShapes Go.WideShapes Go.ChangeAt Go.RowKit Go.Proofs.YtcppmlgnceldmaaGreatDoor.Gp Go.Proofs.YtcppmlgnceldmaaGreatDoor.Di
set_option linter.unusedVariables false
theorem own : ownKnob Tryz.prog.godebug = none := by kernel_rfl
theorem laidOut : laidOutB Tryz.prog = true := by kernel_rfl
abbrev wf9 : ByteArray → Prop := (fun (y : ByteArray) => y.size ≤ 140737488351232)
abbrev siz9 : ByteArray → Nat := (fun (y : ByteArray) => y.size + 1)
theorem gd9 : Gd Tryz.prog 9 .str wf9 siz9 := gd_str Tryz.underlying9 (by kernel_rfl)
abbrev wf3 : Int → Prop := (fun (y : Int) => (Lit.int .i64 y).wf = true)
abbrev siz3 : Int → Nat := (fun _ => 1)
theorem gd3 : Gd Tryz.prog 3 (.int .i64) wf3 siz3 := gd_int Tryz.underlying3 (by kernel_rfl)
abbrev wf99 : (Int × (Int × (Int × Int))) → Prop := (fun (y : (Int × (Int × (Int × Int)))) => wf3 y.1 ∧ (fun (y : (Int × (Int × Int))) => wf3 y.1 ∧ (fun (y : (Int × Int)) => wf3 y.1 ∧ wf3 y.2) y.2) y.2)
abbrev siz99 : (Int × (Int × (Int × Int))) → Nat := (fun (y : (Int × (Int × (Int × Int)))) => siz3 y.1 + (fun (y : (Int × (Int × Int))) => siz3 y.1 + (fun (y : (Int × Int)) => siz3 y.1 + siz3 y.2) y.2) y.2)
theorem gd99 : Gd Tryz.prog 99 (.st (.pair (.int .i64) (.pair (.int .i64) (.pair (.int .i64) (.int .i64))))) wf99 siz99 := gd_st Tryz.underlying99 (by kernel_rfl) (gdf_cons (k := .int .i64) (k' := .pair (.int .i64) (.pair (.int .i64) (.int .i64))) (wf := wf3) (siz := siz3) (wf' := (fun (y : (Int × (Int × Int))) => wf3 y.1 ∧ (fun (y : (Int × Int)) => wf3 y.1 ∧ wf3 y.2) y.2)) (siz' := (fun (y : (Int × (Int × Int))) => siz3 y.1 + (fun (y : (Int × Int)) => siz3 y.1 + siz3 y.2) y.2)) rfl gd3 (gdf_cons (k := .int .i64) (k' := .pair (.int .i64) (.int .i64)) (wf := wf3) (siz := siz3) (wf' := (fun (y : (Int × Int)) => wf3 y.1 ∧ wf3 y.2)) (siz' := (fun (y : (Int × Int)) => siz3 y.1 + siz3 y.2)) rfl gd3 (gdf_cons (k := .int .i64) (k' := .int .i64) (wf := wf3) (siz := siz3) (wf' := wf3) (siz' := siz3) rfl gd3 (gdf_one rfl gd3))))
abbrev wf93 : (List (Int × (Int × (Int × Int)))) → Prop := (wfL (α := (Int × (Int × (Int × Int)))) 32 wf99)
abbrev siz93 : (List (Int × (Int × (Int × Int)))) → Nat := (sizL (α := (Int × (Int × (Int × Int)))) siz99)
theorem gd93 : Gd Tryz.prog 93 (.sl (.st (.pair (.int .i64) (.pair (.int .i64) (.pair (.int .i64) (.int .i64)))))) wf93 siz93 := gd_sl (B := 32) Tryz.underlying93 (by kernel_rfl) (by kernel_rfl) (by decide) gd99
abbrev wf95 : (Int × (Int × (Int × (List (Int × (Int × (Int × Int))))))) → Prop := (fun (y : (Int × (Int × (Int × (List (Int × (Int × (Int × Int)))))))) => wf3 y.1 ∧ (fun (y : (Int × (Int × (List (Int × (Int × (Int × Int))))))) => wf3 y.1 ∧ (fun (y : (Int × (List (Int × (Int × (Int × Int)))))) => wf3 y.1 ∧ wf93 y.2) y.2) y.2)
abbrev siz95 : (Int × (Int × (Int × (List (Int × (Int × (Int × Int))))))) → Nat := (fun (y : (Int × (Int × (Int × (List (Int × (Int × (Int × Int)))))))) => siz3 y.1 + (fun (y : (Int × (Int × (List (Int × (Int × (Int × Int))))))) => siz3 y.1 + (fun (y : (Int × (List (Int × (Int × (Int × Int)))))) => siz3 y.1 + siz93 y.2) y.2) y.2)
theorem gd95 : Gd Tryz.prog 95 (.st (.pair (.int .i64) (.pair (.int .i64) (.pair (.int .i64) (.sl (.st (.pair (.int .i64) (.pair (.int .i64) (.pair (.int .i64) (.int .i64)))))))))) wf95 siz95 := gd_st Tryz.underlying95 (by kernel_rfl) (gdf_cons (k := .int .i64) (k' := .pair (.int .i64) (.pair (.int .i64) (.sl (.st (.pair (.int .i64) (.pair (.int .i64) (.pair (.int .i64) (.int .i64)))))))) (wf := wf3) (siz := siz3) (wf' := (fun (y : (Int × (Int × (List (Int × (Int × (Int × Int))))))) => wf3 y.1 ∧ (fun (y : (Int × (List (Int × (Int × (Int × Int)))))) => wf3 y.1 ∧ wf93 y.2) y.2)) (siz' := (fun (y : (Int × (Int × (List (Int × (Int × (Int × Int))))))) => siz3 y.1 + (fun (y : (Int × (List (Int × (Int × (Int × Int)))))) => siz3 y.1 + siz93 y.2) y.2)) rfl gd3 (gdf_cons (k := .int .i64) (k' := .pair (.int .i64) (.sl (.st (.pair (.int .i64) (.pair (.int .i64) (.pair (.int .i64) (.int .i64))))))) (wf := wf3) (siz := siz3) (wf' := (fun (y : (Int × (List (Int × (Int × (Int × Int)))))) => wf3 y.1 ∧ wf93 y.2)) (siz' := (fun (y : (Int × (List (Int × (Int × (Int × Int)))))) => siz3 y.1 + siz93 y.2)) rfl gd3 (gdf_cons (k := .int .i64) (k' := .sl (.st (.pair (.int .i64) (.pair (.int .i64) (.pair (.int .i64) (.int .i64)))))) (wf := wf3) (siz := siz3) (wf' := wf93) (siz' := siz93) rfl gd3 (gdf_one rfl gd93))))
abbrev wf23 : (List (Int × (Int × (Int × (List (Int × (Int × (Int × Int)))))))) → Prop := (wfL (α := (Int × (Int × (Int × (List (Int × (Int × (Int × Int)))))))) 48 wf95)
abbrev siz23 : (List (Int × (Int × (Int × (List (Int × (Int × (Int × Int)))))))) → Nat := (sizL (α := (Int × (Int × (Int × (List (Int × (Int × (Int × Int)))))))) siz95)
theorem gd23 : Gd Tryz.prog 23 (.sl (.st (.pair (.int .i64) (.pair (.int .i64) (.pair (.int .i64) (.sl (.st (.pair (.int .i64) (.pair (.int .i64) (.pair (.int .i64) (.int .i64))))))))))) wf23 siz23 := gd_sl (B := 48) Tryz.underlying23 (by kernel_rfl) (by kernel_rfl) (by decide) gd95
abbrev wf60 : (Int × (ByteArray × (Int × (List (Int × (Int × (Int × (List (Int × (Int × (Int × Int))))))))))) → Prop := (fun (y : (Int × (ByteArray × (Int × (List (Int × (Int × (Int × (List (Int × (Int × (Int × Int)))))))))))) => wf3 y.1 ∧ (fun (y : (ByteArray × (Int × (List (Int × (Int × (Int × (List (Int × (Int × (Int × Int))))))))))) => wf9 y.1 ∧ (fun (y : (Int × (List (Int × (Int × (Int × (List (Int × (Int × (Int × Int)))))))))) => wf3 y.1 ∧ wf23 y.2) y.2) y.2)
abbrev siz60 : (Int × (ByteArray × (Int × (List (Int × (Int × (Int × (List (Int × (Int × (Int × Int))))))))))) → Nat := (fun (y : (Int × (ByteArray × (Int × (List (Int × (Int × (Int × (List (Int × (Int × (Int × Int)))))))))))) => siz3 y.1 + (fun (y : (ByteArray × (Int × (List (Int × (Int × (Int × (List (Int × (Int × (Int × Int))))))))))) => siz9 y.1 + (fun (y : (Int × (List (Int × (Int × (Int × (List (Int × (Int × (Int × Int)))))))))) => siz3 y.1 + siz23 y.2) y.2) y.2)
theorem gd60 : Gd Tryz.prog 60 (.st (.pair (.int .i64) (.pair .str (.pair (.int .i64) (.sl (.st (.pair (.int .i64) (.pair (.int .i64) (.pair (.int .i64) (.sl (.st (.pair (.int .i64) (.pair (.int .i64) (.pair (.int .i64) (.int .i64))))))))))))))) wf60 siz60 := gd_st Tryz.underlying60 (by kernel_rfl) (gdf_cons (k := .int .i64) (k' := .pair .str (.pair (.int .i64) (.sl (.st (.pair (.int .i64) (.pair (.int .i64) (.pair (.int .i64) (.sl (.st (.pair (.int .i64) (.pair (.int .i64) (.pair (.int .i64) (.int .i64))))))))))))) (wf := wf3) (siz := siz3) (wf' := (fun (y : (ByteArray × (Int × (List (Int × (Int × (Int × (List (Int × (Int × (Int × Int))))))))))) => wf9 y.1 ∧ (fun (y : (Int × (List (Int × (Int × (Int × (List (Int × (Int × (Int × Int)))))))))) => wf3 y.1 ∧ wf23 y.2) y.2)) (siz' := (fun (y : (ByteArray × (Int × (List (Int × (Int × (Int × (List (Int × (Int × (Int × Int))))))))))) => siz9 y.1 + (fun (y : (Int × (List (Int × (Int × (Int × (List (Int × (Int × (Int × Int)))))))))) => siz3 y.1 + siz23 y.2) y.2)) rfl gd3 (gdf_cons (k := .str) (k' := .pair (.int .i64) (.sl (.st (.pair (.int .i64) (.pair (.int .i64) (.pair (.int .i64) (.sl (.st (.pair (.int .i64) (.pair (.int .i64) (.pair (.int .i64) (.int .i64)))))))))))) (wf := wf9) (siz := siz9) (wf' := (fun (y : (Int × (List (Int × (Int × (Int × (List (Int × (Int × (Int × Int)))))))))) => wf3 y.1 ∧ wf23 y.2)) (siz' := (fun (y : (Int × (List (Int × (Int × (Int × (List (Int × (Int × (Int × Int)))))))))) => siz3 y.1 + siz23 y.2)) rfl gd9 (gdf_cons (k := .int .i64) (k' := .sl (.st (.pair (.int .i64) (.pair (.int .i64) (.pair (.int .i64) (.sl (.st (.pair (.int .i64) (.pair (.int .i64) (.pair (.int .i64) (.int .i64))))))))))) (wf := wf3) (siz := siz3) (wf' := wf23) (siz' := siz23) rfl gd3 (gdf_one rfl gd23))))
abbrev wf22 : (List (Int × (ByteArray × (Int × (List (Int × (Int × (Int × (List (Int × (Int × (Int × Int)))))))))))) → Prop := (wfL (α := (Int × (ByteArray × (Int × (List (Int × (Int × (Int × (List (Int × (Int × (Int × Int)))))))))))) 56 wf60)
abbrev siz22 : (List (Int × (ByteArray × (Int × (List (Int × (Int × (Int × (List (Int × (Int × (Int × Int)))))))))))) → Nat := (sizL (α := (Int × (ByteArray × (Int × (List (Int × (Int × (Int × (List (Int × (Int × (Int × Int)))))))))))) siz60)
theorem gd22 : Gd Tryz.prog 22 (.sl (.st (.pair (.int .i64) (.pair .str (.pair (.int .i64) (.sl (.st (.pair (.int .i64) (.pair (.int .i64) (.pair (.int .i64) (.sl (.st (.pair (.int .i64) (.pair (.int .i64) (.pair (.int .i64) (.int .i64)))))))))))))))) wf22 siz22 := gd_sl (B := 56) Tryz.underlying22 (by kernel_rfl) (by kernel_rfl) (by decide) gd60
abbrev wf25 : (ByteArray × ((List (Int × (ByteArray × (Int × (List (Int × (Int × (Int × (List (Int × (Int × (Int × Int)))))))))))) × ((List (Int × (Int × (Int × (List (Int × (Int × (Int × Int)))))))) × ((List (Int × (Int × (Int × (List (Int × (Int × (Int × Int)))))))) × (List (Int × (Int × (Int × (List (Int × (Int × (Int × Int)))))))))))) → Prop := (fun (y : (ByteArray × ((List (Int × (ByteArray × (Int × (List (Int × (Int × (Int × (List (Int × (Int × (Int × Int)))))))))))) × ((List (Int × (Int × (Int × (List (Int × (Int × (Int × Int)))))))) × ((List (Int × (Int × (Int × (List (Int × (Int × (Int × Int)))))))) × (List (Int × (Int × (Int × (List (Int × (Int × (Int × Int))))))))))))) => wf9 y.1 ∧ (fun (y : ((List (Int × (ByteArray × (Int × (List (Int × (Int × (Int × (List (Int × (Int × (Int × Int)))))))))))) × ((List (Int × (Int × (Int × (List (Int × (Int × (Int × Int)))))))) × ((List (Int × (Int × (Int × (List (Int × (Int × (Int × Int)))))))) × (List (Int × (Int × (Int × (List (Int × (Int × (Int × Int)))))))))))) => wf22 y.1 ∧ (fun (y : ((List (Int × (Int × (Int × (List (Int × (Int × (Int × Int)))))))) × ((List (Int × (Int × (Int × (List (Int × (Int × (Int × Int)))))))) × (List (Int × (Int × (Int × (List (Int × (Int × (Int × Int))))))))))) => wf23 y.1 ∧ (fun (y : ((List (Int × (Int × (Int × (List (Int × (Int × (Int × Int)))))))) × (List (Int × (Int × (Int × (List (Int × (Int × (Int × Int)))))))))) => wf23 y.1 ∧ wf23 y.2) y.2) y.2) y.2)
abbrev siz25 : (ByteArray × ((List (Int × (ByteArray × (Int × (List (Int × (Int × (Int × (List (Int × (Int × (Int × Int)))))))))))) × ((List (Int × (Int × (Int × (List (Int × (Int × (Int × Int)))))))) × ((List (Int × (Int × (Int × (List (Int × (Int × (Int × Int)))))))) × (List (Int × (Int × (Int × (List (Int × (Int × (Int × Int)))))))))))) → Nat := (fun (y : (ByteArray × ((List (Int × (ByteArray × (Int × (List (Int × (Int × (Int × (List (Int × (Int × (Int × Int)))))))))))) × ((List (Int × (Int × (Int × (List (Int × (Int × (Int × Int)))))))) × ((List (Int × (Int × (Int × (List (Int × (Int × (Int × Int)))))))) × (List (Int × (Int × (Int × (List (Int × (Int × (Int × Int))))))))))))) => siz9 y.1 + (fun (y : ((List (Int × (ByteArray × (Int × (List (Int × (Int × (Int × (List (Int × (Int × (Int × Int)))))))))))) × ((List (Int × (Int × (Int × (List (Int × (Int × (Int × Int)))))))) × ((List (Int × (Int × (Int × (List (Int × (Int × (Int × Int)))))))) × (List (Int × (Int × (Int × (List (Int × (Int × (Int × Int)))))))))))) => siz22 y.1 + (fun (y : ((List (Int × (Int × (Int × (List (Int × (Int × (Int × Int)))))))) × ((List (Int × (Int × (Int × (List (Int × (Int × (Int × Int)))))))) × (List (Int × (Int × (Int × (List (Int × (Int × (Int × Int))))))))))) => siz23 y.1 + (fun (y : ((List (Int × (Int × (Int × (List (Int × (Int × (Int × Int)))))))) × (List (Int × (Int × (Int × (List (Int × (Int × (Int × Int)))))))))) => siz23 y.1 + siz23 y.2) y.2) y.2) y.2)
theorem gd25 : Gd Tryz.prog 25 (.st (.pair .str (.pair (.sl (.st (.pair (.int .i64) (.pair .str (.pair (.int .i64) (.sl (.st (.pair (.int .i64) (.pair (.int .i64) (.pair (.int .i64) (.sl (.st (.pair (.int .i64) (.pair (.int .i64) (.pair (.int .i64) (.int .i64)))))))))))))))) (.pair (.sl (.st (.pair (.int .i64) (.pair (.int .i64) (.pair (.int .i64) (.sl (.st (.pair (.int .i64) (.pair (.int .i64) (.pair (.int .i64) (.int .i64))))))))))) (.pair (.sl (.st (.pair (.int .i64) (.pair (.int .i64) (.pair (.int .i64) (.sl (.st (.pair (.int .i64) (.pair (.int .i64) (.pair (.int .i64) (.int .i64))))))))))) (.sl (.st (.pair (.int .i64) (.pair (.int .i64) (.pair (.int .i64) (.sl (.st (.pair (.int .i64) (.pair (.int .i64) (.pair (.int .i64) (.int .i64)))))))))))))))) wf25 siz25 := gd_st Tryz.underlying25 (by kernel_rfl) (gdf_cons (k := .str) (k' := .pair (.sl (.st (.pair (.int .i64) (.pair .str (.pair (.int .i64) (.sl (.st (.pair (.int .i64) (.pair (.int .i64) (.pair (.int .i64) (.sl (.st (.pair (.int .i64) (.pair (.int .i64) (.pair (.int .i64) (.int .i64)))))))))))))))) (.pair (.sl (.st (.pair (.int .i64) (.pair (.int .i64) (.pair (.int .i64) (.sl (.st (.pair (.int .i64) (.pair (.int .i64) (.pair (.int .i64) (.int .i64))))))))))) (.pair (.sl (.st (.pair (.int .i64) (.pair (.int .i64) (.pair (.int .i64) (.sl (.st (.pair (.int .i64) (.pair (.int .i64) (.pair (.int .i64) (.int .i64))))))))))) (.sl (.st (.pair (.int .i64) (.pair (.int .i64) (.pair (.int .i64) (.sl (.st (.pair (.int .i64) (.pair (.int .i64) (.pair (.int .i64) (.int .i64)))))))))))))) (wf := wf9) (siz := siz9) (wf' := (fun (y : ((List (Int × (ByteArray × (Int × (List (Int × (Int × (Int × (List (Int × (Int × (Int × Int)))))))))))) × ((List (Int × (Int × (Int × (List (Int × (Int × (Int × Int)))))))) × ((List (Int × (Int × (Int × (List (Int × (Int × (Int × Int)))))))) × (List (Int × (Int × (Int × (List (Int × (Int × (Int × Int)))))))))))) => wf22 y.1 ∧ (fun (y : ((List (Int × (Int × (Int × (List (Int × (Int × (Int × Int)))))))) × ((List (Int × (Int × (Int × (List (Int × (Int × (Int × Int)))))))) × (List (Int × (Int × (Int × (List (Int × (Int × (Int × Int))))))))))) => wf23 y.1 ∧ (fun (y : ((List (Int × (Int × (Int × (List (Int × (Int × (Int × Int)))))))) × (List (Int × (Int × (Int × (List (Int × (Int × (Int × Int)))))))))) => wf23 y.1 ∧ wf23 y.2) y.2) y.2)) (siz' := (fun (y : ((List (Int × (ByteArray × (Int × (List (Int × (Int × (Int × (List (Int × (Int × (Int × Int)))))))))))) × ((List (Int × (Int × (Int × (List (Int × (Int × (Int × Int)))))))) × ((List (Int × (Int × (Int × (List (Int × (Int × (Int × Int)))))))) × (List (Int × (Int × (Int × (List (Int × (Int × (Int × Int)))))))))))) => siz22 y.1 + (fun (y : ((List (Int × (Int × (Int × (List (Int × (Int × (Int × Int)))))))) × ((List (Int × (Int × (Int × (List (Int × (Int × (Int × Int)))))))) × (List (Int × (Int × (Int × (List (Int × (Int × (Int × Int))))))))))) => siz23 y.1 + (fun (y : ((List (Int × (Int × (Int × (List (Int × (Int × (Int × Int)))))))) × (List (Int × (Int × (Int × (List (Int × (Int × (Int × Int)))))))))) => siz23 y.1 + siz23 y.2) y.2) y.2)) rfl gd9 (gdf_cons (k := .sl (.st (.pair (.int .i64) (.pair .str (.pair (.int .i64) (.sl (.st (.pair (.int .i64) (.pair (.int .i64) (.pair (.int .i64) (.sl (.st (.pair (.int .i64) (.pair (.int .i64) (.pair (.int .i64) (.int .i64)))))))))))))))) (k' := .pair (.sl (.st (.pair (.int .i64) (.pair (.int .i64) (.pair (.int .i64) (.sl (.st (.pair (.int .i64) (.pair (.int .i64) (.pair (.int .i64) (.int .i64))))))))))) (.pair (.sl (.st (.pair (.int .i64) (.pair (.int .i64) (.pair (.int .i64) (.sl (.st (.pair (.int .i64) (.pair (.int .i64) (.pair (.int .i64) (.int .i64))))))))))) (.sl (.st (.pair (.int .i64) (.pair (.int .i64) (.pair (.int .i64) (.sl (.st (.pair (.int .i64) (.pair (.int .i64) (.pair (.int .i64) (.int .i64))))))))))))) (wf := wf22) (siz := siz22) (wf' := (fun (y : ((List (Int × (Int × (Int × (List (Int × (Int × (Int × Int)))))))) × ((List (Int × (Int × (Int × (List (Int × (Int × (Int × Int)))))))) × (List (Int × (Int × (Int × (List (Int × (Int × (Int × Int))))))))))) => wf23 y.1 ∧ (fun (y : ((List (Int × (Int × (Int × (List (Int × (Int × (Int × Int)))))))) × (List (Int × (Int × (Int × (List (Int × (Int × (Int × Int)))))))))) => wf23 y.1 ∧ wf23 y.2) y.2)) (siz' := (fun (y : ((List (Int × (Int × (Int × (List (Int × (Int × (Int × Int)))))))) × ((List (Int × (Int × (Int × (List (Int × (Int × (Int × Int)))))))) × (List (Int × (Int × (Int × (List (Int × (Int × (Int × Int))))))))))) => siz23 y.1 + (fun (y : ((List (Int × (Int × (Int × (List (Int × (Int × (Int × Int)))))))) × (List (Int × (Int × (Int × (List (Int × (Int × (Int × Int)))))))))) => siz23 y.1 + siz23 y.2) y.2)) rfl gd22 (gdf_cons (k := .sl (.st (.pair (.int .i64) (.pair (.int .i64) (.pair (.int .i64) (.sl (.st (.pair (.int .i64) (.pair (.int .i64) (.pair (.int .i64) (.int .i64))))))))))) (k' := .pair (.sl (.st (.pair (.int .i64) (.pair (.int .i64) (.pair (.int .i64) (.sl (.st (.pair (.int .i64) (.pair (.int .i64) (.pair (.int .i64) (.int .i64))))))))))) (.sl (.st (.pair (.int .i64) (.pair (.int .i64) (.pair (.int .i64) (.sl (.st (.pair (.int .i64) (.pair (.int .i64) (.pair (.int .i64) (.int .i64)))))))))))) (wf := wf23) (siz := siz23) (wf' := (fun (y : ((List (Int × (Int × (Int × (List (Int × (Int × (Int × Int)))))))) × (List (Int × (Int × (Int × (List (Int × (Int × (Int × Int)))))))))) => wf23 y.1 ∧ wf23 y.2)) (siz' := (fun (y : ((List (Int × (Int × (Int × (List (Int × (Int × (Int × Int)))))))) × (List (Int × (Int × (Int × (List (Int × (Int × (Int × Int)))))))))) => siz23 y.1 + siz23 y.2)) rfl gd23 (gdf_cons (k := .sl (.st (.pair (.int .i64) (.pair (.int .i64) (.pair (.int .i64) (.sl (.st (.pair (.int .i64) (.pair (.int .i64) (.pair (.int .i64) (.int .i64))))))))))) (k' := .sl (.st (.pair (.int .i64) (.pair (.int .i64) (.pair (.int .i64) (.sl (.st (.pair (.int .i64) (.pair (.int .i64) (.pair (.int .i64) (.int .i64))))))))))) (wf := wf23) (siz := siz23) (wf' := wf23) (siz' := siz23) rfl gd23 (gdf_one rfl gd23)))))
abbrev wf5 : Int → Prop := (fun (y : Int) => (Lit.int .u8 y).wf = true)
abbrev siz5 : Int → Nat := (fun _ => 1)
theorem gd5 : Gd Tryz.prog 5 (.int .u8) wf5 siz5 := gd_int Tryz.underlying5 (by kernel_rfl)
abbrev wf26 : (List Int) → Prop := (wfL (α := Int) 1 wf5)
abbrev siz26 : (List Int) → Nat := (sizL (α := Int) siz5)
theorem gd26 : Gd Tryz.prog 26 (.sl (.int .u8)) wf26 siz26 := gd_sl (B := 1) Tryz.underlying26 (by kernel_rfl) (by kernel_rfl) (by decide) gd5
abbrev wf70 : (ByteArray × Int) → Prop := (fun (y : (ByteArray × Int)) => wf9 y.1 ∧ wf3 y.2)
abbrev siz70 : (ByteArray × Int) → Nat := (fun (y : (ByteArray × Int)) => siz9 y.1 + siz3 y.2)
theorem gd70 : Gd Tryz.prog 70 (.st (.pair .str (.int .i64))) wf70 siz70 := gd_st Tryz.underlying70 (by kernel_rfl) (gdf_cons (k := .str) (k' := .int .i64) (wf := wf9) (siz := siz9) (wf' := wf3) (siz' := siz3) rfl gd9 (gdf_one rfl gd3))
abbrev wf27 : (List (ByteArray × Int)) → Prop := (wfL (α := (ByteArray × Int)) 24 wf70)
abbrev siz27 : (List (ByteArray × Int)) → Nat := (sizL (α := (ByteArray × Int)) siz70)
theorem gd27 : Gd Tryz.prog 27 (.sl (.st (.pair .str (.int .i64)))) wf27 siz27 := gd_sl (B := 24) Tryz.underlying27 (by kernel_rfl) (by kernel_rfl) (by decide) gd70
abbrev wf29 : (Int × ((List Int) × (List (ByteArray × Int)))) → Prop := (fun (y : (Int × ((List Int) × (List (ByteArray × Int))))) => wf3 y.1 ∧ (fun (y : ((List Int) × (List (ByteArray × Int)))) => wf26 y.1 ∧ wf27 y.2) y.2)
abbrev siz29 : (Int × ((List Int) × (List (ByteArray × Int)))) → Nat := (fun (y : (Int × ((List Int) × (List (ByteArray × Int))))) => siz3 y.1 + (fun (y : ((List Int) × (List (ByteArray × Int)))) => siz26 y.1 + siz27 y.2) y.2)
theorem gd29 : Gd Tryz.prog 29 (.st (.pair (.int .i64) (.pair (.sl (.int .u8)) (.sl (.st (.pair .str (.int .i64))))))) wf29 siz29 := gd_st Tryz.underlying29 (by kernel_rfl) (gdf_cons (k := .int .i64) (k' := .pair (.sl (.int .u8)) (.sl (.st (.pair .str (.int .i64))))) (wf := wf3) (siz := siz3) (wf' := (fun (y : ((List Int) × (List (ByteArray × Int)))) => wf26 y.1 ∧ wf27 y.2)) (siz' := (fun (y : ((List Int) × (List (ByteArray × Int)))) => siz26 y.1 + siz27 y.2)) rfl gd3 (gdf_cons (k := .sl (.int .u8)) (k' := .sl (.st (.pair .str (.int .i64)))) (wf := wf26) (siz := siz26) (wf' := wf27) (siz' := siz27) rfl gd26 (gdf_one rfl gd27)))
set_option maxRecDepth 100000 in
set_option maxHeartbeats 1000000 in
set_option maxRecDepth 100000 in
theorem door_met (os : Os) (args : Array Value) : laidMetH Tryz.prog Rows.disListsRow.laid ((laidWorld Tryz.prog Rows.disListsRow.laid os).forCall (fun _ _ => 0) ⟨#[], args, []⟩).memory :=
  laidMetH_of_parts3 (fuel := 12) (laidMet_of_run' 12 (by kernel_rfl) (by kernel_rfl)) (by kernel_rfl) (by kernel_rfl)
theorem of_laid {W : World} (h : laidMetH Tryz.prog Rows.disListsRow.laid W) : Lib.TabIs Tryz.prog W "internal/strconv.uint64pow10" .u64 Lib.pow10Tab := by
  rw [MakeChecks.laidMetH_plain _ _ _ (by kernel_rfl)] at h
  obtain ⟨ps, ⟨g0, t0, cs0, fu0, p0, q0, hg0, ht0, hv0, hd0, ⟨g1, t1, cs1, fu1, p1, q1, hg1, ht1, hv1, hd1, ⟨g2, t2, cs2, fu2, p2, q2, hg2, ht2, hv2, hd2, _, _⟩, _⟩, _⟩, _, _⟩ := h
  obtain rfl := Option.some.inj (g_pow10.symm.trans hg2)
  have et : (Tryz.prog.globals[3]?).map (·.type) = some 174 := by kernel_rfl
  obtain rfl := Option.some.inj (et.symm.trans ht2)
  have ed : (Rows.laid_internal_strconv_uint64pow10 : DataW Unit) = Lib.tabData .u64 Lib.pow10Tab := by kernel_rfl
  have hd : DataW.trod _ Tryz.prog W _ _ _ _ 174 cs2.toList = some (Lib.tabData .u64 Lib.pow10Tab, _) := ed ▸ hd2
  unfold Lib.TabIs
  rw [hv2, ← Lib.cells_of_tab Tryz.underlying174 Tryz.underlying148 (by kernel_rfl) (by kernel_rfl) hd]
set_option maxRecDepth 100000 in
set_option maxHeartbeats 1000000 in
theorem lifted (os : Os) (started : os.Started) (H : Type) (enc : TypeId × Value → H) :
    ReturnsInHanded {} Tryz.checked os 3 .any (fun w args => (Rows.disListsSpec.pre enc Tryz.prog Tryz.f3 Rows.disListsRow.domain false w args ∧ laidMetH Tryz.prog Rows.disListsRow.laid w) ∧ sizedMet enc Tryz.prog Tryz.f3 (OpenSpec.ofChange Rows.disListsSpec) false w args) (Rows.disListsSpec.post enc Tryz.prog Tryz.f3 false true false false) := by
  refine returns_laid (C := Tryz.checked) (X := fun w _ => laidMetH Tryz.prog Rows.disListsRow.laid w) (fun _ _ _ hh h => h.of_heap hh) own started (by kernel_rfl) Tryz.func3
    (ChangeSpec.witness_shaped (enc := enc) (C := Tryz.checked) (os := os) (X := fun w _ => laidMetH Tryz.prog Rows.disListsRow.laid w) false (laidWorld Tryz.prog Rows.disListsRow.laid os) #[.agg #[.string ByteArray.empty, .slice none 0 0, .slice none 0 0, .slice none 0 0, .slice none 0 0], .agg #[.int .i64 0, .slice none 0 0, .slice none 0 0]] 8 rfl (World.shaped_of_RefB (by kernel_rfl) (by kernel_rfl)) (by kernel_rfl) (by kernel_rfl) (by kernel_rfl) (door_met os _)) ?_
  intro W base args ds gs before hval0 hW hsz0 hL hshape
  have hgh : GH (memH W) := gh_of (of_laid hL) (cell_of_shapedOpen_int (g := 0) (t := 3) (zero := #[.int .i64 0]) hshape (of_decide_eq_true (by kernel_rfl)) (by kernel_rfl) rfl (by kernel_rfl) (by kernel_rfl) Tryz.underlying3)
  have hsz : (DataW.weightsEach Tryz.prog (Tryz.f3.params.toList ++ Rows.disListsSpec.plain.varTypes Tryz.prog) (ds ++ gs)).all (· ≤ reachBytes) = true := hsz0
  have hval : ∀ (j : Nat) t v, Tryz.f3.params[j]? = some t → args[j]? = some v → Value.okWide Tryz.prog W .any base t v := hval0
  have hW' := hW
  obtain ⟨p, q, hA0, hV, rfl, hfz, hnd⟩ := hW
  have hA : DataW.TrodAll enc Tryz.prog W 0 (fun _ => true) true Tryz.f3.params.toList args.toList ds p := hA0
  rw [Tryz.params3] at hA hval hsz
  obtain ⟨v0, vs0, d0, ds0, p0, q0, hargs, rfl, rfl, h0, r0⟩ := trodAll_cons hA
  obtain ⟨v1, vs1, d1, ds1, p1, q1, rfl, rfl, rfl, h1, r1⟩ := trodAll_cons r0
  obtain ⟨rfl, rfl, rfl⟩ := trodAll_nil r1
  obtain rfl : args = #[v0, v1] := by cases args; simp_all
  obtain ⟨rfl, rfl⟩ := trodVars_none hV
  have lt0 : ∀ x ∈ p0, x.block < W.heap.size := by obtain ⟨m, hm⟩ := h0; exact DataW.trod_lt m _ _ _ hm
  have wt0 := weights_at hsz 0 (t := 25) rfl rfl
  obtain ⟨a0, s0, wf0_, up0_⟩ := gd25.arg (hval 0 25 v0 rfl rfl) h0 wt0
  have lt1 : ∀ x ∈ p1, x.block < W.heap.size := by obtain ⟨m, hm⟩ := h1; exact DataW.trod_lt m _ _ _ hm
  have wt1 := weights_at hsz 1 (t := 29) rfl rfl
  obtain ⟨a1, s1, wf1_, up1_⟩ := gd29.arg (hval 1 29 v1 rfl rfl) h1 wt1
  clear hA0 hval0 hsz0 hsz
  obtain ⟨k, h⟩ := Di.disLists a0 a1 wf0_ wf1_
  refine (law_calls (DisLists3.ok k) (ds := (a0, a1)) h (args := #[v0, v1]) (W := W) (.cons (s0 _) (.cons (s1 _) (.nil))) hgh).mono fun e W' ⟨he, bel0⟩ => ?_
  have bel : Below W.heap.size W W' := bel0
  subst he
  exact ⟨_, rfl, _, _, _, [], _, [], hW', trodAll_mk1 (shut_bool Tryz.underlying4 _), (trodAll_cons_mk (Below.trod laidOut (by kernel_rfl) (of_decide_eq_true (by kernel_rfl)) h0 bel lt0) (trodAll_cons_mk (Below.trod laidOut (by kernel_rfl) (of_decide_eq_true (by kernel_rfl)) h1 bel lt1) (trodAll_mk0))), rfl, bel.frame _, fun h => by cases h⟩
theorem over : Rows.disListsRow.holds Tryz.pinned (OpenSpec.ofChange Rows.disListsSpec) :=
  OpenClaim.holds_of_wide 3 Tryz.f3 rfl rfl rfl rfl rfl rfl rfl ⟨rfl, rfl, rfl, rfl, rfl⟩ rfl rfl rfl rfl rfl (by kernel_rfl) Tryz.func3 (by kernel_rfl)
    (of_decide_eq_true (by kernel_rfl)) (by unfold Func.isWrapper; first | (rw [if_pos (by decide +kernel)]; kernel_rfl) | (rw [if_neg (by decide +kernel)]; exact ⟨rfl, rfl⟩))
    (fun os started H enc _ => lifted os started H enc)
theorem proved : Rows.DisListsSaid := over
#print axioms proved
end Go.Proofs.YtcppmlgnceldmaaGreatDoor.disLists
namespace Go.Proofs.YtcppmlgnceldmaaGreatDoor
open Go
theorem disLists_holds : Rows.DisListsCardSaid :=
  Claim7.holds_tied_plain_at .later [] [.data, .data, .data, .data, .pinned] true (true, "b199514967f8e8b0a332d51bb565a8eb325623099e0a5d795d8cb45bd55b7a70") false
    disLists.proved (fun _ h => by cases h) (by kernel_rfl) (fun _ h => by cases h) disLists_row_tie rfl ⟨rfl, rfl⟩ (by kernel_rfl) rfl
    (fun f fn hf hfn => by
      obtain rfl : f = 3 := Option.some.inj ((show Tryz.prog.funcNamed "bakelite/bakelaw3.DisLists" = some 3 by kernel_rfl).symm.trans hf) |>.symm
      obtain rfl : fn = Tryz.f3 := (Option.some.inj (Tryz.func3.symm.trans hfn)).symm
      exact ⟨by kernel_rfl, fun j t ht => by
        rw [Tryz.params3] at ht
        have hm : t ∈ [25, 29] := by simpa using Array.mem_of_getElem? ht
        have hall : ([25, 29].all fun u => !Tryz.prog.wantsStandIn u) = true := by kernel_rfl
        exact (show Tryz.prog.wantsStandIn t = false by simpa using List.all_eq_true.1 hall t hm)⟩)
    (by kernel_rfl)
#print axioms disLists_holds
end Go.Proofs.YtcppmlgnceldmaaGreatDoor
