import Derived.Test.YtalamamjodihaaaWLast
import Derived.Test.YtalamamjodihaaaWWords
namespace Go.Proofs.YtalamamjodihaaaW.PrintLast
open Go.Proofs.YtalamamjodihaaaW.PrintWords (Aside0)
section
variable {md : Region.Mode} {ops : Array Oper} {T : Bool × List (List Nat × List Nat)} {l l' li lj lk : Array Bool} {ds : List Nat} {i j k : Nat}
end
end Go.Proofs.YtalamamjodihaaaW.PrintLast
