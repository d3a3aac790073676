/- The seat's own words for printed code. -/
import Derived.Test.YtdehdahimkcakaaGreatDoorTab
import Derived.Test.YtdehdahimkcakaaGreatDoorWalk3
namespace Go.Proofs.YtdehdahimkcakaaGreatDoor
open Go Ai
noncomputable abbrev bn (op : BinOp) (t : TypeId) (x y : AV) : Option AV := bin Tryz.ty Tryz.eqOk op t x y
noncomputable abbrev zr (t : TypeId) : Option AV := zero Tryz.ty t
noncomputable abbrev bld (t : TypeId) (l : List (Nat × AV)) : Option AV := buildA Tryz.ty t l
noncomputable abbrev bsl (t : TypeId) (n : Nat) (l : List (Nat × AV)) : Option AV := buildSl Tryz.ty t n l
noncomputable abbrev cv (a b : TypeId) (x : AV) (s : St) : Option AV := convA Tryz.ty a b x s
noncomputable abbrev slc (t : TypeId) (x : AV) (lo hi mx : Option AV) (s : St) : Option AV := sliceA Tryz.ty t x lo hi mx s
noncomputable abbrev bt (b : Builtin) (ats : Array TypeId) (args : List AV) (id : Nat) (s : St) : Option (AV × St) := builtinA (bX Tryz.env) b ats args id s
abbrev ld (z : Nat) (ag : Bool) (a : AV) (s : St) : Option AV := Ai.load z ag a s
abbrev sto (z : Nat) (a x : AV) (s : St) : Option St := Ai.store z a x s
noncomputable abbrev ixa (t : TypeId) (x i : AV) : Option AV := indexA Tryz.ty t x i
noncomputable def gl (n : Nat) : AV := ev (bX Tryz.env) (fun _ => .undef) (.global n)
end Go.Proofs.YtdehdahimkcakaaGreatDoor
