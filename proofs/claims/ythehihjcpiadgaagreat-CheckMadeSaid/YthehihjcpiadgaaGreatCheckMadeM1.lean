import Derived.Test.YthehihjcpiadgaaGreatCheckMadeK1
set_option maxRecDepth 100000
set_option maxHeartbeats 0
set_option linter.all false
open Go.Proofs.Tryz
namespace Go.Proofs.YthehihjcpiadgaaGreat
open Go.RowKit Go.Proofs.Wz.PrintWords Go.Proofs.Wz.bM
structure oG(k:Nat)(M:bL):Prop where
 n0:M.f0.length<=k
 n1:M.f1.length<=k
 n2:M.f2.length<=k
 n3:M.f3.length<=k
 n4:M.f4.length<=k
 n5:M.f5.length<=k
 n6:M.f6.length<=k
 n7:M.f7.length<=k
 c: ∀f,f∈M.f2->f.f1.length<=k/\f.f2.length<=1000000+k
 s: ∀e,e∈M.f5->e.f0.size<=100
end Go.Proofs.YthehihjcpiadgaaGreat
