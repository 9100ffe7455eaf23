/- A piece of the proof, made small by a program of ours. -/
import Derived.Test.YtilmgbneiikbiaaGreatDoorP09
set_option linter.all false
set_option maxRecDepth 1000000
set_option maxHeartbeats 0
namespace Go.Sy
noncomputable section
open Go.RowKit Go.Proofs Go.Proofs.Tryz
section
attribute [local instance] bZ
def dgt (n:Nat):List Nat:=if n<10 then [48+n]else if n<100 then [48+n/10,48+n % 10]else [48+n/100,48+n/10 % 10,48+n % 10]
def vw (n:Int):List Nat:=if n<0 then 45::dgt n.natAbs else dgt n.natAbs
def Bf (n:Int) (h:Bool):List Nat:=match h with|true=>vw n++[47,50]|false=>vw n
def Ey (n:Int) (h:Bool):Q:=match h with|true=>(n,2)|false=>(n,0)
def psE (n:Int) (h:Bool):AV×AV:=(.cons (.str (Bf n h)) .nil,.aS (.cons (aK.v (Ey n h)) (.cons (.int .i64 0) .nil)))
def Xl (k m:Nat):List (AV×AV):=(List.range m).map λi=>psE ((k+i:Nat) - 128) false
def psH (k m:Nat):List (AV×AV):=(List.range m).map λi=>psE (2*((k+i:Nat):Int) - 127) true
end
end
end Go.Sy
