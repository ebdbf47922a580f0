/-
  What the laws need, part H1.
  Conditions: none.
-/
import Derived.Test.YtdjhhbpedllnhaaGreatA23
import Derived.BigQuiet
import Derived.ChangeOld
import Derived.Deep.CutBlock
import Derived.Deep.DeepCutAuto
import Derived.Deep.DeepFit
import Derived.Deep.DeepMust
import Derived.Deep.Fields
import Derived.Deep.LoopGhost
import Derived.Deep.MidRow
import Derived.Deep.QuietTactic
import Derived.Deep.RegionHeld3
import Derived.Deep.RegionLaw
import Derived.Deep.Slices
import Derived.Laws.AppendOwnNone
import Derived.Laws.CopyOwn
import Derived.Lib.Hide
import Derived.Maps.OwnSet
import Derived.Maps.RangeWalk
import Derived.OpenShut
import Derived.ProofKit
import Derived.WalkKit
set_option linter.unusedVariables false
set_option linter.unusedSimpArgs false
set_option linter.unnecessarySimpa false
set_option maxHeartbeats 2000000
namespace Go.Proofs.YtdjhhbpedllnhaaGreat
open Go.RowKit
open Go.RowKit
section
variable {w w':World} {v:Value} {e:TypeId} {sz n:Nat} {xs:List Value} {S T:List Nat}
end
section
variable {P:Program} {t e:TypeId} {sz bytes:Nat} {z:Value}
end
open Go.RowKit Go.ChangeShapes Go.WideShapes Go.Deep
section
variable {H:Type} {enc:TypeId × Value→H} {P:Program} {w:World} {base:Nat} {spare:Nat→Bool} {held:Bool}
end
open Go.RowKit
section
variable {w w':World} {v:Value} {l:List Int} {S T:List Nat} {e:TypeId}
end
section
variable {P:Program} {t e:TypeId} {bytes:Nat} {z:Value}
end
open Go.RowKit
section
variable {α:Type} {f:α→List Value} {sz:Nat}
end
section
variable {α:Type} {f:α→List Value} {sz:Nat}
end
section
variable {α:Type} {f:α→List Value} {sz:Nat} {w w':World} {v:Value} {l:List α} {S T:List Nat} {e:TypeId}
end
open Go.RowKit
section
variable {α:Type} {E:World→List Value→α→List Nat→Prop} {sz:Nat} {w w':World} {v:Value} {l:List α} {S T S2:List Nat} {e:TypeId}
end
section
variable {α:Type} {F:World→List Value→α→List Nat→Prop} {P:Program} {t e:TypeId} {sz bytes:Nat} {z:Value}
end
open Go.RowKit Go.ChangeShapes Go.WideShapes Go.Deep
section
variable {H:Type} {enc:TypeId × Value→H} {P:Program}
end
open Go.RowKit Go.ChangeShapes Go.WideShapes Go.Deep
section
variable {P:Program} {t e:TypeId}
end
open Go.RowKit
section
variable {k:IntKind} {w w':World} {v:Value} {l:List Int} {S T:List Nat} {e:TypeId}
end
section
variable {P:Program} {t e:TypeId} {bytes:Nat} {z:Value} {k:IntKind}
end
open Go.RowKit Go.Maps
section
variable {P:Program} {k:TypeId} {w w':World} {b n:Nat} {f:Int→Option Value}
end
open Go.RowKit Go.Maps
section
variable {P:Program} {k:TypeId} {w w':World} {b r n dZ:Nat} {f:Int→Option Value} {left:Int→Bool}
end
section
variable {α:Type} {E:World→List Value→α→List Nat→Prop} {sz:Nat} {w w':World} {l:List α} {S:List Nat}
end
section
variable {e:TypeId} {sz:Nat}
end
section
variable {α:Type} {E:World→List Value→α→List Nat→Prop} {sz:Nat} {w w':World} {l:List α} {S T:List Nat} {e:TypeId}
end
section
variable {α:Type} {F:World→List Value→α→List Nat→Prop} {P:Program} {t e:TypeId} {sz bytes:Nat} {z:Value}
end
section
variable {α:Type} {F:World→List Value→α→List Nat→Prop} {P:Program} {t e:TypeId} {sz bytes:Nat} {z:Value}
end
section
variable {α:Type} {F:World→List Value→α→List Nat→Prop} {P:Program} {t e:TypeId} {sz bytes:Nat} {z:Value}
end
section
variable {α:Type} {E:World→List Value→α→List Nat→Prop} {w:World} {l:List α} {S:List Nat}
end
section
variable {P:Program} {ops:Array Oper} {Q:Exit→Act→World→Prop} {md:Region.Mode} {S:World→Prop} {m:Nat}
def lT (P:Program) (md:Region.Mode) (ops:Array Oper) (Q:Exit→Act→World→Prop) (S:World→Prop) (m:Nat):Nat→Array Bool→Act→World→Prop
 | 0,aM,a,w=>Region.ready md ops aM=[]∧Q .normal a w
 | n + 1,aM,a,w=>(Region.ready md ops aM=[]→Q .normal a w) ∧
  ∀ i∈Region.ready md ops aM,wpOp P ops Q i (fun a' w'=>(i=m∨S w')∧lT P md ops Q S m n (aM.setIfInBounds i true) a' w') a w
end
open Go.RowKit
section
variable {w w':World} {v:Value} {es e:TypeId} {ll:List (List Int)} {T S:List Nat} {Us:List (List Nat)}
end
open Go.RowKit
namespace Fl
open Sx Go.Proofs.Tryz
instance:aJ prog 17:={}
instance:aJ prog 19:={}
instance:aJ prog 70:={}
instance:aJ prog 71:={}
instance:aJ prog 72:={}
instance:aJ prog 122:={}
end Fl
namespace Sx
end Sx
namespace Sx
section
variable {x y:Gr}
end
section
variable {n nc ns:Int} {G:Int→Gr} {C:Int→Cn} {S:Int→Su} {P:Int→Prop}
end
end Sx
namespace Sx
section
variable {n nc ns:Int} {G:Int→Gr} {C:Int→Cn} {S:Int→Su} {P:Int→Prop}
end
end Sx
namespace Sx
section
variable {n nc ns:Int} {G:Int→Gr} {C:Int→Cn} {S:Int→Su} {P:Int→Prop}
end
end Sx
namespace Sx
section
variable {n nc ns:Int} {G:Int→Gr} {C:Int→Cn} {S:Int→Su} {P:Int→Prop}
end
end Sx
namespace Sx
section
variable {n nc ns:Int} {G:Int→Gr} {C:Int→Cn} {S:Int→Su} {P:Int→Prop}
end
end Sx
namespace Sx
end Sx
namespace Sx
variable {nc ns n:Int} {x x':Gr}
end Sx
namespace Sx
variable {s:ah} {g:Nat}
theorem Zq (s:ah) (g:Nat) (x:Gr) (c:Int):cn (ai s g x) c=cn s c:=rfl
end Sx
namespace Sx
variable {s:ah} {g:Nat} {nc ns n:Int}
end Sx
namespace Sx
variable {s:ah} {g:Nat} {nc ns n:Int}
end Sx
namespace Sx
variable {s t:ah} {g:Nat} {nc ns n:Int}
end Sx
namespace Sx
variable {s t:ah} {g:Nat} {nc ns n:Int}
end Sx
namespace Sx
variable {s t:ah} {g:Nat} {nc ns n:Int}
end Sx
namespace Sx
variable {s t:ah} {g:Nat} {nc ns n:Int}
end Sx
namespace Sx
variable {s t:ah} {g:Nat} {nc ns n:Int}
end Sx
namespace Sx
variable {s t:ah} {g:Nat} {nc ns n:Int}
end Sx
namespace Sx
variable {s t:ah} {g:Nat} {nc ns n:Int}
end Sx
open Go.RowKit
namespace Sx
section
variable {s:ah} {g k:Nat} {x y:Gr} {f:Gr→Gr} {i j:Int} {d e:Su} {c:Int} {n:Cn}
end
end Sx
namespace Fl
open Sx Go.Proofs.Tryz
section
variable {P:Program} {F:FuncId} {ds:List D} {L Ll Lr:List an}
end
section
variable {P:Program} {c:Cx} {k:List Item} {f:Fm} {L L2:List an} {T X:TypeId} {ps:String} {af:Array Edge} {gd:Option (Nat × Bool)} {t:Nat}
end
section
variable {P:Program} {c:Cx} {k:List Item} {f f0:Fm} {L L0:List an} {ops:Array Oper} {o:Oper} {m:Option Nat} {n:Nat} {aM:Array Bool}
end
theorem Zr {b:Nat} {u:U} {s:ah} {k:Nat} (v:Bool) (hk:k < s.au.length) (h8:k < 8):wd b u (aA s ((k:Int) + 1) { cn s ((k:Int) + 1) with closed:=v })=(wd b u s).set 3 (.row u.vC 4 1 ((s.au.map fun c=>[bI c.closed]).set k [bI v])):=by
 rw [Cy hk h8,GB (c:={ cn s ((k:Int) + 1) with closed:=v }) h8 rfl rfl];dsimp only;rw [Gz hk,GA hk];rfl
section
variable {P:Program} {c:Cx} {k:List Item} {fm:Fm} {L B:List an} {mk:List an→List an} {ops:Array Oper} {l:List Oper} {u:U} {s:ah} {g:Nat}
end
section
variable (b:Nat) (u:U) (s:ah)
variable {s}
end
end Fl
end Go.Proofs.YtdjhhbpedllnhaaGreat
