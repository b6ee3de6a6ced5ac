import Derived.Test.YthehihjcpiadgaaGreatProg
import Derived.Lib.Hide
import Derived.Lib.SliceRun
import Derived.Test.YthehihjcpiadgaaGreatCheckMadeG0
set_option maxRecDepth 100000
set_option maxHeartbeats 0
set_option linter.all false
open Go.Proofs.Tryz
namespace Go.Proofs.YthehihjcpiadgaaGreat
theorem hd {p:Prop} (h:p):Go.RowKit.Hid p:=Lib.hid h
end Go.Proofs.YthehihjcpiadgaaGreat
theorem Go.RowKit.Hid.o {p:Prop} (h:Go.RowKit.Hid p):p:=h.out
theorem Go.Shut.o {p:Prop} (h:Go.Shut p):p:=h.out
namespace Go.Proofs.YthehihjcpiadgaaGreat
open Go.RowKit Go.Proofs.Wz.PrintWords Go.Proofs.Wz.bM
def aR:=@World.block_lt_of_cell?
def aU:=@Nat.le_refl
def cG:=@Nat.le_trans
def ay:=@Below.refl
def dF:=@Int.toNat_natCast
def dX:=@Below.heap_setCell
def dh:=@heap_alloc_new
def dG:=@Nat.zero_lt_succ
def iy:=@decide_eq_false_iff_not
def jv:=@Nat.lt_of_lt_of_le
def jy:=@List.mem_cons_self
def gq:=@List.getD_eq_getElem?_getD
def MA:=@List.getElem?_eq_getElem
def aga:=@List.getElem?_eq_some_iff
def iz:=@decide_eq_true
def jP:=@decide_eq_false
theorem ex.{u} {α:Sort u} (t:α): ∃y,y=t:=⟨_,rfl⟩
theorem ey.{u} {α:Sort u} (t:α): ∃y,t=y:=⟨_,rfl⟩
theorem c8 {W:World} {b t:Nat} {v0 v1 v2 v3 v4 v5 v6 v7:Value} (h:W.heap[b]? =some (.cells #[v0,v1,v2,v3,v4,v5,v6,v7] t (0,0))):W.cell? ⟨b,0,none⟩=some v0∧W.cell? ⟨b,1,none⟩=some v1∧W.cell? ⟨b,2,none⟩=some v2∧W.cell? ⟨b,3,none⟩=some v3∧W.cell? ⟨b,4,none⟩=some v4∧W.cell? ⟨b,5,none⟩=some v5∧W.cell? ⟨b,6,none⟩=some v6∧W.cell? ⟨b,7,none⟩=some v7:=⟨(aa h 0).trans rfl,(aa h 1).trans rfl,(aa h 2).trans rfl,(aa h 3).trans rfl,(aa h 4).trans rfl,(aa h 5).trans rfl,(aa h 6).trans rfl,(aa h 7).trans rfl⟩
theorem f8 {W:World} {b t:Nat} {cs:Array Value} (h:W.heap[b]? =some (.cells cs t (0,0))):W.frozen? ⟨b,0,none⟩=false∧W.frozen? ⟨b,1,none⟩=false∧W.frozen? ⟨b,2,none⟩=false∧W.frozen? ⟨b,3,none⟩=false∧W.frozen? ⟨b,4,none⟩=false∧W.frozen? ⟨b,5,none⟩=false∧W.frozen? ⟨b,6,none⟩=false∧W.frozen? ⟨b,7,none⟩=false:=⟨ah h 0,ah h 1,ah h 2,ah h 3,ah h 4,ah h 5,ah h 6,ah h 7⟩
end Go.Proofs.YthehihjcpiadgaaGreat
namespace Go.Proofs.YthehihjcpiadgaaGreat
namespace Sp
def within(n a b:Int):Bool:=decide (a<=n/\n<=b)
def opens(op:Int):Bool:=within op 2 4
def dx(op:Int):Int:=if op=65 then 127 else if op=66 then 126 else if op=68 then 124 else 0
def isInt(op:Int):Bool:=decide ((69<=op/\op<=90)\/(103<=op/\op<=138)\/op=167\/op=172\/op=173\/(192<=op/\op<=196))
def mV(op:Int):Bool:=decide ((97<=op/\op<=102)\/(153<=op/\op<=166)\/op=170\/op=171\/op=176\/op=177\/(183<=op/\op<=186)\/op=189\/op=191\/op=64514\/op=64515\/op=64518\/op=64519)
def mW(op:Int):Int:=if op=44\/op=45\/op=48\/op=49\/op=58\/op=60 then 1 else if op=46\/op=47\/op=50\/op=51\/op=59\/op=61 then 2 else if op=40\/op=52\/op=53\/op=54\/op=62 then 4 else if op=41\/op=43\/op=55\/op=57 then 8 else 0
def tM(op:Int):Int:=if op=40\/op=44\/op=45\/op=46\/op=47\/op=54\/op=58\/op=59 then 127 else if op=43\/op=57 then 124 else 126
def jX(op:Int):Int:=if 0<mW op then tM op else 0
def eD(op:Int):Bool:=decide (0<mW op)
def tN(op:Int):Bool:=decide (op=44\/op=46\/op=48\/op=50\/op=52)
def fB(op:Int):Bool:=isInt op||mV op
def known(op:Int):Bool:=fB op||eD op||decide (dx op≠0)||decide ((0<=op/\op<=5)\/(11<=op/\op<=16)\/op=18\/op=26\/op=27\/(32<=op/\op<=36)\/op=63\/op=64\/(64520<=op/\op<=64523))
def MB(op:Int):Bool:=decide (op=18\/(192<=op/\op<=196)\/op=64514\/op=64515\/(64518<=op/\op<=64523))
def GJ(op:Int):Int:=
 if op=69\/op=80\/(103<=op/\op<=105)\/(121<=op/\op<=123)\/(153<=op/\op<=159)\/op=167\/170<=op then 1 else 2
def CC(op:Int):Int:=
 if(69<=op/\op<=79)\/(103<=op/\op<=120)\/op=172\/op=173\/op=183\/op=184\/op=192\/op=193 then 127
 else if(80<=op/\op<=90)\/(121<=op/\op<=138)\/op=167\/op=185\/op=186\/op=191\/(194<=op/\op<=196)then 126 else 124
def yz(op:Int):Int:=
 if(69<=op/\op<=102)\/(103<=op/\op<=120)\/op=167\/op=170\/op=171\/op=64514\/op=64515\/op=192\/op=193 then 127
 else if(121<=op/\op<=138)\/op=172\/op=173\/op=176\/op=177\/op=64518\/op=64519\/op=189\/(194<=op/\op<=196)then 126 else 124
def fR(op:Int):List Int:=if fB op then(if GJ op=1 then [CC op]else [CC op,CC op])else []
def gH(op:Int):List Int:=if fB op then [yz op]else []
def pW(op:Int):Bool:=decide (op=167\/op=172\/op=173\/op=170\/op=171\/op=64514\/op=64515\/op=176\/op=177\/op=64518\/op=64519\/op=189\/op=183\/op=184\/op=185\/op=186\/op=191\/(192<=op/\op<=196))
def yA(op:Int):List Int:=if pW op then fR op else []
def yB(op:Int):List Int:=if pW op then gH op else []
theorem MC(op:Int)(h:pW op=true):fB op=true:=by
 simp only[pW,fB,isInt,mV,decide_eq_true_eq,Bool.or_eq_true]at *;omega
theorem QB(op:Int)(h:62<op):mW op=0:=by
 unfold mW;rw[if_neg (by omega),if_neg (by omega),if_neg (by omega),if_neg (by omega)]
theorem J4(op:Int)(h:68<op):dx op=0:=by
 unfold dx;rw[if_neg (by omega),if_neg (by omega),if_neg (by omega)]
theorem GK(op:Int):(known op&&(decide (op=18)||decide (192<=op)))=MB op:=by
 rw[Bool.eq_iff_iff];simp only[known,fB,isInt,mV,eD,MB,Bool.or_eq_true,Bool.and_eq_true,decide_eq_true_eq];by_cases vh:op=18
 ·simp[vh]
 ·by_cases hg:192<=op
  ·have e1:=QB op (by omega)
   have e2:=J4 op (by omega);rw[e1,e2];omega
  ·omega
theorem oU(op:Int):0<=mW op/\(mW op≠0->40<=op/\op<=62):=by
 unfold mW
 (repeat' split)<;>omega
theorem mo(op:Int):0<=dx op/\(dx op≠0->op=65\/op=66\/op=68):=by
 unfold dx
 (repeat' split)<;>omega
def CD(op:Int):Bool:=opens op||decide (op=12\/op=13\/op=16\/op=18\/(32<=op/\op<=36)\/op=63\/op=64\/(64520<=op/\op<=64523))||eD op
def GL(op:Int):Bool:=decide (op=64520\/op=64522)
def GM(op:Int):Bool:=eD op||decide (dx op≠0)
def GN(op:Int):Bool:=decide (op=14)
end Sp
end Go.Proofs.YthehihjcpiadgaaGreat
namespace Go.Proofs.YthehihjcpiadgaaGreat
open Go.RowKit Go.Proofs.Wz.PrintWords Go.Proofs.Wz.bM
structure aW where
 f0:Int
 f1:Int
 f2:Int
 f3:Int
 f4:(List Int)
def Ep:aW:=⟨(0:Int),(0:Int),(0:Int),(0:Int),([]:List Int)⟩
def bW:Kd aW:=Kd.Gy (Kd.pair (Kd.int .i64) (Kd.pair (Kd.int .i64) (Kd.pair (Kd.int .i64) (Kd.pair (Kd.int .u64) (Kd.slice 3 (Kd.int .i64)))))) (fun x:aW=>(x.f0,x.f1,x.f2,x.f3,x.f4))
theorem mX{w:World}{x:aW}{cs:List Value}(h:bW.K w x cs): ∃A4 c4,cs= [.int .i64 x.f0,.int .i64 x.f1,.int .i64 x.f2,.int .u64 x.f3,.slice A4 x.f4.length c4]/\x.f4.length<=c4/\(Kd.int .i64).C w A4 x.f4.length x.f4:=by
 obtain⟨_,_,rfl,rfl,⟨_,_,rfl,rfl,⟨_,_,rfl,rfl,⟨_,_,rfl,rfl,⟨A4,c4,rfl,l4,g4⟩⟩⟩⟩⟩:=h;exact⟨A4,c4,rfl,l4,g4⟩
theorem qE(w:World)(x:aW){A4:Option Addr}{c4:Nat}(l4:x.f4.length<=c4)(g4:(Kd.int .i64).C w A4 x.f4.length x.f4):bW.K w x [.int .i64 x.f0,.int .i64 x.f1,.int .i64 x.f2,.int .u64 x.f3,.slice A4 x.f4.length c4]:=⟨[.int .i64 x.f0],[.int .i64 x.f1,.int .i64 x.f2,.int .u64 x.f3,.slice A4 x.f4.length c4],rfl,rfl,⟨[.int .i64 x.f1],[.int .i64 x.f2,.int .u64 x.f3,.slice A4 x.f4.length c4],rfl,rfl,⟨[.int .i64 x.f2],[.int .u64 x.f3,.slice A4 x.f4.length c4],rfl,rfl,⟨[.int .u64 x.f3],[.slice A4 x.f4.length c4],rfl,rfl,⟨A4,c4,rfl,l4,g4⟩⟩⟩⟩⟩
theorem J5(w:World)(base:Nat)(ok:Nat->Prop)(x:aW){v4:Value}(g4:(Kd.int .i64).R 3 w base ok v4 x.f4):bW.M w base ok x [.int .i64 x.f0,.int .i64 x.f1,.int .i64 x.f2,.int .u64 x.f3,v4]:=⟨[.int .i64 x.f0],[.int .i64 x.f1,.int .i64 x.f2,.int .u64 x.f3,v4],rfl,rfl,⟨[.int .i64 x.f1],[.int .i64 x.f2,.int .u64 x.f3,v4],rfl,rfl,⟨[.int .i64 x.f2],[.int .u64 x.f3,v4],rfl,rfl,⟨[.int .u64 x.f3],[v4],rfl,rfl,⟨v4,rfl,g4⟩⟩⟩⟩⟩
def aO(xs:List aW)(i:Int):aW:=xs.getD i.toNat Ep
theorem jF{w:World}{A:Option Addr}{n:Nat}{xs:List aW}(h:Kd.C bW w A n xs)(i:Int)(h0:0<=i)(h1:i<n): ∃ad A4 c4,A=some ad/\w.cell? (ad.add (i.toNat*5))=some (.int .i64 (aO xs i).f0)/\w.cell? ⟨(ad.add (i.toNat*5)).block,(ad.add (i.toNat*5)).off+1,none⟩=some (.int .i64 (aO xs i).f1)/\w.cell? ⟨(ad.add (i.toNat*5)).block,(ad.add (i.toNat*5)).off+2,none⟩=some (.int .i64 (aO xs i).f2)/\w.cell? ⟨(ad.add (i.toNat*5)).block,(ad.add (i.toNat*5)).off+3,none⟩=some (.int .u64 (aO xs i).f3)/\w.cell? ⟨(ad.add (i.toNat*5)).block,(ad.add (i.toNat*5)).off+4,none⟩=some (.slice A4 (aO xs i).f4.length c4)/\(aO xs i).f4.length<=c4/\(Kd.int .i64).C w A4 (aO xs i).f4.length (aO xs i).f4:=by
 obtain⟨ad,c,e,_,hK,hc0⟩:=Kd.og h Ep i h0 h1;have hc: ∀j u,c[j]? =some u->w.cell? (ad.add (i.toNat*5+j))=some u:=hc0;obtain⟨A4,c4,rfl,l4,g4⟩:=mX hK;exact⟨ad,A4,c4,e,hc 0 _ rfl,by rw[<-bV _ _ 1 (by omega)];exact hc 1 _ rfl,by rw[<-bV _ _ 2 (by omega)];exact hc 2 _ rfl,by rw[<-bV _ _ 3 (by omega)];exact hc 3 _ rfl,by rw[<-bV _ _ 4 (by omega)];exact hc 4 _ rfl,l4,g4⟩
structure ig where
 f0:(List Int)
 f1:(List Int)
def cv:ig:=⟨([]:List Int),([]:List Int)⟩
def qo:Kd ig:=Kd.Gy (Kd.pair (Kd.slice 3 (Kd.int .i64)) (Kd.slice 3 (Kd.int .i64))) (fun x:ig=>(x.f0,x.f1))
theorem yC{w:World}{x:ig}{cs:List Value}(h:qo.K w x cs): ∃A0 c0 A1 c1,cs= [.slice A0 x.f0.length c0,.slice A1 x.f1.length c1]/\x.f0.length<=c0/\(Kd.int .i64).C w A0 x.f0.length x.f0/\x.f1.length<=c1/\(Kd.int .i64).C w A1 x.f1.length x.f1:=by
 obtain⟨_,_,rfl,⟨A0,c0,rfl,l0,g0⟩,⟨A1,c1,rfl,l1,g1⟩⟩:=h;exact⟨A0,c0,A1,c1,rfl,l0,g0,l1,g1⟩
theorem J6{w:World}{base:Nat}{ok:Nat->Prop}{x:ig}{cs:List Value}(h:qo.M w base ok x cs): ∃v0 v1,cs= [v0,v1]/\(Kd.int .i64).R 3 w base ok v0 x.f0/\(Kd.int .i64).R 3 w base ok v1 x.f1:=by
 obtain⟨_,_,rfl,⟨v0,rfl,g0⟩,⟨v1,rfl,g1⟩⟩:=h;exact⟨v0,v1,rfl,g0,g1⟩
theorem kU(w:World)(x:ig){A0:Option Addr}{c0:Nat}(l0:x.f0.length<=c0)(g0:(Kd.int .i64).C w A0 x.f0.length x.f0){A1:Option Addr}{c1:Nat}(l1:x.f1.length<=c1)(g1:(Kd.int .i64).C w A1 x.f1.length x.f1):qo.K w x [.slice A0 x.f0.length c0,.slice A1 x.f1.length c1]:=⟨[.slice A0 x.f0.length c0],[.slice A1 x.f1.length c1],rfl,⟨A0,c0,rfl,l0,g0⟩,⟨A1,c1,rfl,l1,g1⟩⟩
theorem QC(w:World)(base:Nat)(ok:Nat->Prop)(x:ig){v0:Value}(g0:(Kd.int .i64).R 3 w base ok v0 x.f0){v1:Value}(g1:(Kd.int .i64).R 3 w base ok v1 x.f1):qo.M w base ok x [v0,v1]:=⟨[v0],[v1],rfl,⟨v0,rfl,g0⟩,⟨v1,rfl,g1⟩⟩
def cD(xs:List ig)(i:Int):ig:=xs.getD i.toNat cv
theorem qF{w:World}{A:Option Addr}{n:Nat}{xs:List ig}(h:Kd.C qo w A n xs)(i:Int)(h0:0<=i)(h1:i<n): ∃ad A0 c0 A1 c1,A=some ad/\w.cell? (ad.add (i.toNat*2))=some (.slice A0 (cD xs i).f0.length c0)/\w.cell? ⟨(ad.add (i.toNat*2)).block,(ad.add (i.toNat*2)).off+1,none⟩=some (.slice A1 (cD xs i).f1.length c1)/\(cD xs i).f0.length<=c0/\(Kd.int .i64).C w A0 (cD xs i).f0.length (cD xs i).f0/\(cD xs i).f1.length<=c1/\(Kd.int .i64).C w A1 (cD xs i).f1.length (cD xs i).f1:=by
 obtain⟨ad,c,e,_,hK,hc0⟩:=Kd.og h cv i h0 h1;have hc: ∀j u,c[j]? =some u->w.cell? (ad.add (i.toNat*2+j))=some u:=hc0;obtain⟨A0,c0,A1,c1,rfl,l0,g0,l1,g1⟩:=yC hK;exact⟨ad,A0,c0,A1,c1,e,hc 0 _ rfl,by rw[<-bV _ _ 1 (by omega)];exact hc 1 _ rfl,l0,g0,l1,g1⟩
structure iB where
 f0:Int
 f1:(List Int)
 f2:(List aW)
def yD:iB:=⟨(0:Int),([]:List Int),([]:List aW)⟩
def fL:Kd iB:=Kd.Gy (Kd.pair (Kd.int .i64) (Kd.pair (Kd.slice 3 (Kd.int .i64)) (Kd.slice 25 bW))) (fun x:iB=>(x.f0,x.f1,x.f2))
theorem jY{w:World}{x:iB}{cs:List Value}(h:fL.K w x cs): ∃A1 c1 A2 c2,cs= [.int .i64 x.f0,.slice A1 x.f1.length c1,.slice A2 x.f2.length c2]/\x.f1.length<=c1/\(Kd.int .i64).C w A1 x.f1.length x.f1/\x.f2.length<=c2/\bW.C w A2 x.f2.length x.f2:=by
 obtain⟨_,_,rfl,rfl,⟨_,_,rfl,⟨A1,c1,rfl,l1,g1⟩,⟨A2,c2,rfl,l2,g2⟩⟩⟩:=h;exact⟨A1,c1,A2,c2,rfl,l1,g1,l2,g2⟩
theorem tO(w:World)(x:iB){A1:Option Addr}{c1:Nat}(l1:x.f1.length<=c1)(g1:(Kd.int .i64).C w A1 x.f1.length x.f1){A2:Option Addr}{c2:Nat}(l2:x.f2.length<=c2)(g2:bW.C w A2 x.f2.length x.f2):fL.K w x [.int .i64 x.f0,.slice A1 x.f1.length c1,.slice A2 x.f2.length c2]:=⟨[.int .i64 x.f0],[.slice A1 x.f1.length c1,.slice A2 x.f2.length c2],rfl,rfl,⟨[.slice A1 x.f1.length c1],[.slice A2 x.f2.length c2],rfl,⟨A1,c1,rfl,l1,g1⟩,⟨A2,c2,rfl,l2,g2⟩⟩⟩
theorem MD(w:World)(base:Nat)(ok:Nat->Prop)(x:iB){v1:Value}(g1:(Kd.int .i64).R 3 w base ok v1 x.f1){v2:Value}(g2:bW.R 25 w base ok v2 x.f2):fL.M w base ok x [.int .i64 x.f0,v1,v2]:=⟨[.int .i64 x.f0],[v1,v2],rfl,rfl,⟨[v1],[v2],rfl,⟨v1,rfl,g1⟩,⟨v2,rfl,g2⟩⟩⟩
def aF(xs:List iB)(i:Int):iB:=xs.getD i.toNat yD
theorem ku{w:World}{A:Option Addr}{n:Nat}{xs:List iB}(h:Kd.C fL w A n xs)(i:Int)(h0:0<=i)(h1:i<n): ∃ad A1 c1 A2 c2,A=some ad/\w.cell? (ad.add (i.toNat*3))=some (.int .i64 (aF xs i).f0)/\w.cell? ⟨(ad.add (i.toNat*3)).block,(ad.add (i.toNat*3)).off+1,none⟩=some (.slice A1 (aF xs i).f1.length c1)/\w.cell? ⟨(ad.add (i.toNat*3)).block,(ad.add (i.toNat*3)).off+2,none⟩=some (.slice A2 (aF xs i).f2.length c2)/\(aF xs i).f1.length<=c1/\(Kd.int .i64).C w A1 (aF xs i).f1.length (aF xs i).f1/\(aF xs i).f2.length<=c2/\bW.C w A2 (aF xs i).f2.length (aF xs i).f2:=by
 obtain⟨ad,c,e,_,hK,hc0⟩:=Kd.og h yD i h0 h1;have hc: ∀j u,c[j]? =some u->w.cell? (ad.add (i.toNat*3+j))=some u:=hc0;obtain⟨A1,c1,A2,c2,rfl,l1,g1,l2,g2⟩:=jY hK;exact⟨ad,A1,c1,A2,c2,e,hc 0 _ rfl,by rw[<-bV _ _ 1 (by omega)];exact hc 1 _ rfl,by rw[<-bV _ _ 2 (by omega)];exact hc 2 _ rfl,l1,g1,l2,g2⟩
structure dV where
 f0:Int
 f1:Bool
 f2:Int
def Er:dV:=⟨(0:Int),false,(0:Int)⟩
def eE:Kd dV:=Kd.Gy (Kd.pair (Kd.int .i64) (Kd.pair Kd.bool (Kd.int .u64))) (fun x:dV=>(x.f0,x.f1,x.f2))
theorem sK{w:World}{x:dV}{cs:List Value}(h:eE.K w x cs):cs= [.int .i64 x.f0,.bool x.f1,.int .u64 x.f2]:=by
 obtain⟨_,_,rfl,rfl,⟨_,_,rfl,rfl,rfl⟩⟩:=h;exact rfl
theorem lK(w:World)(x:dV):eE.K w x [.int .i64 x.f0,.bool x.f1,.int .u64 x.f2]:=⟨[.int .i64 x.f0],[.bool x.f1,.int .u64 x.f2],rfl,rfl,⟨[.bool x.f1],[.int .u64 x.f2],rfl,rfl,rfl⟩⟩
def dg(xs:List dV)(i:Int):dV:=xs.getD i.toNat Er
theorem qG{w:World}{A:Option Addr}{n:Nat}{xs:List dV}(h:Kd.C eE w A n xs)(i:Int)(h0:0<=i)(h1:i<n): ∃ad,A=some ad/\w.cell? (ad.add (i.toNat*3))=some (.int .i64 (dg xs i).f0)/\w.cell? ⟨(ad.add (i.toNat*3)).block,(ad.add (i.toNat*3)).off+1,none⟩=some (.bool (dg xs i).f1)/\w.cell? ⟨(ad.add (i.toNat*3)).block,(ad.add (i.toNat*3)).off+2,none⟩=some (.int .u64 (dg xs i).f2):=by
 obtain⟨ad,c,e,_,hK,hc0⟩:=Kd.og h Er i h0 h1;have hc: ∀j u,c[j]? =some u->w.cell? (ad.add (i.toNat*3+j))=some u:=hc0;obtain rfl:=sK hK;exact⟨ad,e,hc 0 _ rfl,by rw[<-bV _ _ 1 (by omega)];exact hc 1 _ rfl,by rw[<-bV _ _ 2 (by omega)];exact hc 2 _ rfl⟩
structure jw where
 f0:Int
 f1:Int
def QD:jw:=⟨(0:Int),(0:Int)⟩
def jQ:Kd jw:=Kd.Gy (Kd.pair (Kd.int .i64) (Kd.int .i64)) (fun x:jw=>(x.f0,x.f1))
theorem vk{w:World}{x:jw}{cs:List Value}(h:jQ.K w x cs):cs= [.int .i64 x.f0,.int .i64 x.f1]:=by
 obtain⟨_,_,rfl,rfl,rfl⟩:=h;exact rfl
theorem CE(w:World)(x:jw):jQ.K w x [.int .i64 x.f0,.int .i64 x.f1]:=⟨[.int .i64 x.f0],[.int .i64 x.f1],rfl,rfl,rfl⟩
theorem ME(w:World)(base:Nat)(ok:Nat->Prop)(x:jw):jQ.M w base ok x [.int .i64 x.f0,.int .i64 x.f1]:=⟨[.int .i64 x.f0],[.int .i64 x.f1],rfl,rfl,rfl⟩
def tP(xs:List jw)(i:Int):jw:=xs.getD i.toNat QD
theorem QE{w:World}{A:Option Addr}{n:Nat}{xs:List jw}(h:Kd.C jQ w A n xs)(i:Int)(h0:0<=i)(h1:i<n): ∃ad,A=some ad/\w.cell? (ad.add (i.toNat*2))=some (.int .i64 (tP xs i).f0)/\w.cell? ⟨(ad.add (i.toNat*2)).block,(ad.add (i.toNat*2)).off+1,none⟩=some (.int .i64 (tP xs i).f1):=by
 obtain⟨ad,c,e,_,hK,hc0⟩:=Kd.og h QD i h0 h1;have hc: ∀j u,c[j]? =some u->w.cell? (ad.add (i.toNat*2+j))=some u:=hc0;obtain rfl:=vk hK;exact⟨ad,e,hc 0 _ rfl,by rw[<-bV _ _ 1 (by omega)];exact hc 1 _ rfl⟩
structure eF where
 f0:Bool
 f1:Int
 f2:Int
 f3:(List Int)
def qH:eF:=⟨false,(0:Int),(0:Int),([]:List Int)⟩
def fM:Kd eF:=Kd.Gy (Kd.pair Kd.bool (Kd.pair (Kd.int .i64) (Kd.pair (Kd.int .i64) (Kd.slice 5 (Kd.int .u8))))) (fun x:eF=>(x.f0,x.f1,x.f2,x.f3))
theorem sL{w:World}{x:eF}{cs:List Value}(h:fM.K w x cs): ∃A3 c3,cs= [.bool x.f0,.int .i64 x.f1,.int .i64 x.f2,.slice A3 x.f3.length c3]/\x.f3.length<=c3/\(Kd.int .u8).C w A3 x.f3.length x.f3:=by
 obtain⟨_,_,rfl,rfl,⟨_,_,rfl,rfl,⟨_,_,rfl,rfl,⟨A3,c3,rfl,l3,g3⟩⟩⟩⟩:=h;exact⟨A3,c3,rfl,l3,g3⟩
theorem qI(w:World)(x:eF){A3:Option Addr}{c3:Nat}(l3:x.f3.length<=c3)(g3:(Kd.int .u8).C w A3 x.f3.length x.f3):fM.K w x [.bool x.f0,.int .i64 x.f1,.int .i64 x.f2,.slice A3 x.f3.length c3]:=⟨[.bool x.f0],[.int .i64 x.f1,.int .i64 x.f2,.slice A3 x.f3.length c3],rfl,rfl,⟨[.int .i64 x.f1],[.int .i64 x.f2,.slice A3 x.f3.length c3],rfl,rfl,⟨[.int .i64 x.f2],[.slice A3 x.f3.length c3],rfl,rfl,⟨A3,c3,rfl,l3,g3⟩⟩⟩⟩
def iO(xs:List eF)(i:Int):eF:=xs.getD i.toNat qH
theorem yE{w:World}{A:Option Addr}{n:Nat}{xs:List eF}(h:Kd.C fM w A n xs)(i:Int)(h0:0<=i)(h1:i<n): ∃ad A3 c3,A=some ad/\w.cell? (ad.add (i.toNat*4))=some (.bool (iO xs i).f0)/\w.cell? ⟨(ad.add (i.toNat*4)).block,(ad.add (i.toNat*4)).off+1,none⟩=some (.int .i64 (iO xs i).f1)/\w.cell? ⟨(ad.add (i.toNat*4)).block,(ad.add (i.toNat*4)).off+2,none⟩=some (.int .i64 (iO xs i).f2)/\w.cell? ⟨(ad.add (i.toNat*4)).block,(ad.add (i.toNat*4)).off+3,none⟩=some (.slice A3 (iO xs i).f3.length c3)/\(iO xs i).f3.length<=c3/\(Kd.int .u8).C w A3 (iO xs i).f3.length (iO xs i).f3:=by
 obtain⟨ad,c,e,_,hK,hc0⟩:=Kd.og h qH i h0 h1;have hc: ∀j u,c[j]? =some u->w.cell? (ad.add (i.toNat*4+j))=some u:=hc0;obtain⟨A3,c3,rfl,l3,g3⟩:=sL hK;exact⟨ad,A3,c3,e,hc 0 _ rfl,by rw[<-bV _ _ 1 (by omega)];exact hc 1 _ rfl,by rw[<-bV _ _ 2 (by omega)];exact hc 2 _ rfl,by rw[<-bV _ _ 3 (by omega)];exact hc 3 _ rfl,l3,g3⟩
structure jg where
 f0:ByteArray
 f1:Int
 f2:Int
def qJ:jg:=⟨(⟨#[]⟩:ByteArray),(0:Int),(0:Int)⟩
def lW:Kd jg:=Kd.Gy (Kd.pair Kd.string (Kd.pair (Kd.int .i64) (Kd.int .i64))) (fun x:jg=>(x.f0,x.f1,x.f2))
theorem J7{w:World}{x:jg}{cs:List Value}(h:lW.K w x cs):cs= [.string x.f0,.int .i64 x.f1,.int .i64 x.f2]:=by
 obtain⟨_,_,rfl,rfl,⟨_,_,rfl,rfl,rfl⟩⟩:=h;exact rfl
theorem QF(w:World)(x:jg):lW.K w x [.string x.f0,.int .i64 x.f1,.int .i64 x.f2]:=⟨[.string x.f0],[.int .i64 x.f1,.int .i64 x.f2],rfl,rfl,⟨[.int .i64 x.f1],[.int .i64 x.f2],rfl,rfl,rfl⟩⟩
theorem yF(w:World)(base:Nat)(ok:Nat->Prop)(x:jg):lW.M w base ok x [.string x.f0,.int .i64 x.f1,.int .i64 x.f2]:=⟨[.string x.f0],[.int .i64 x.f1,.int .i64 x.f2],rfl,rfl,⟨[.int .i64 x.f1],[.int .i64 x.f2],rfl,rfl,rfl⟩⟩
def cu(xs:List jg)(i:Int):jg:=xs.getD i.toNat qJ
theorem CG{w:World}{A:Option Addr}{n:Nat}{xs:List jg}(h:Kd.C lW w A n xs)(i:Int)(h0:0<=i)(h1:i<n): ∃ad,A=some ad/\w.cell? (ad.add (i.toNat*3))=some (.string (cu xs i).f0)/\w.cell? ⟨(ad.add (i.toNat*3)).block,(ad.add (i.toNat*3)).off+1,none⟩=some (.int .i64 (cu xs i).f1)/\w.cell? ⟨(ad.add (i.toNat*3)).block,(ad.add (i.toNat*3)).off+2,none⟩=some (.int .i64 (cu xs i).f2):=by
 obtain⟨ad,c,e,_,hK,hc0⟩:=Kd.og h qJ i h0 h1;have hc: ∀j u,c[j]? =some u->w.cell? (ad.add (i.toNat*3+j))=some u:=hc0;obtain rfl:=J7 hK;exact⟨ad,e,hc 0 _ rfl,by rw[<-bV _ _ 1 (by omega)];exact hc 1 _ rfl,by rw[<-bV _ _ 2 (by omega)];exact hc 2 _ rfl⟩
structure iX where
 f0:ByteArray
 f1:ByteArray
 f2:Int
def MF:iX:=⟨(⟨#[]⟩:ByteArray),(⟨#[]⟩:ByteArray),(0:Int)⟩
def j8:Kd iX:=Kd.Gy (Kd.pair Kd.string (Kd.pair Kd.string (Kd.int .i64))) (fun x:iX=>(x.f0,x.f1,x.f2))
theorem vn{w:World}{x:iX}{cs:List Value}(h:j8.K w x cs):cs= [.string x.f0,.string x.f1,.int .i64 x.f2]:=by
 obtain⟨_,_,rfl,rfl,⟨_,_,rfl,rfl,rfl⟩⟩:=h;exact rfl
theorem tQ(w:World)(x:iX):j8.K w x [.string x.f0,.string x.f1,.int .i64 x.f2]:=⟨[.string x.f0],[.string x.f1,.int .i64 x.f2],rfl,rfl,⟨[.string x.f1],[.int .i64 x.f2],rfl,rfl,rfl⟩⟩
def ij(xs:List iX)(i:Int):iX:=xs.getD i.toNat MF
theorem tR{w:World}{A:Option Addr}{n:Nat}{xs:List iX}(h:Kd.C j8 w A n xs)(i:Int)(h0:0<=i)(h1:i<n): ∃ad,A=some ad/\w.cell? (ad.add (i.toNat*3))=some (.string (ij xs i).f0)/\w.cell? ⟨(ad.add (i.toNat*3)).block,(ad.add (i.toNat*3)).off+1,none⟩=some (.string (ij xs i).f1)/\w.cell? ⟨(ad.add (i.toNat*3)).block,(ad.add (i.toNat*3)).off+2,none⟩=some (.int .i64 (ij xs i).f2):=by
 obtain⟨ad,c,e,_,hK,hc0⟩:=Kd.og h MF i h0 h1;have hc: ∀j u,c[j]? =some u->w.cell? (ad.add (i.toNat*3+j))=some u:=hc0;obtain rfl:=vn hK;exact⟨ad,e,hc 0 _ rfl,by rw[<-bV _ _ 1 (by omega)];exact hc 1 _ rfl,by rw[<-bV _ _ 2 (by omega)];exact hc 2 _ rfl⟩
structure jA where
 f0:ByteArray
 f1:(List Int)
def QG:jA:=⟨(⟨#[]⟩:ByteArray),([]:List Int)⟩
def kH:Kd jA:=Kd.Gy (Kd.pair Kd.string (Kd.slice 5 (Kd.int .u8))) (fun x:jA=>(x.f0,x.f1))
theorem vp{w:World}{x:jA}{cs:List Value}(h:kH.K w x cs): ∃A1 c1,cs= [.string x.f0,.slice A1 x.f1.length c1]/\x.f1.length<=c1/\(Kd.int .u8).C w A1 x.f1.length x.f1:=by
 obtain⟨_,_,rfl,rfl,⟨A1,c1,rfl,l1,g1⟩⟩:=h;exact⟨A1,c1,rfl,l1,g1⟩
theorem xA(w:World)(x:jA){A1:Option Addr}{c1:Nat}(l1:x.f1.length<=c1)(g1:(Kd.int .u8).C w A1 x.f1.length x.f1):kH.K w x [.string x.f0,.slice A1 x.f1.length c1]:=⟨[.string x.f0],[.slice A1 x.f1.length c1],rfl,rfl,⟨A1,c1,rfl,l1,g1⟩⟩
def nI(xs:List jA)(i:Int):jA:=xs.getD i.toNat QG
theorem QH{w:World}{A:Option Addr}{n:Nat}{xs:List jA}(h:Kd.C kH w A n xs)(i:Int)(h0:0<=i)(h1:i<n): ∃ad A1 c1,A=some ad/\w.cell? (ad.add (i.toNat*2))=some (.string (nI xs i).f0)/\w.cell? ⟨(ad.add (i.toNat*2)).block,(ad.add (i.toNat*2)).off+1,none⟩=some (.slice A1 (nI xs i).f1.length c1)/\(nI xs i).f1.length<=c1/\(Kd.int .u8).C w A1 (nI xs i).f1.length (nI xs i).f1:=by
 obtain⟨ad,c,e,_,hK,hc0⟩:=Kd.og h QG i h0 h1;have hc: ∀j u,c[j]? =some u->w.cell? (ad.add (i.toNat*2+j))=some u:=hc0;obtain⟨A1,c1,rfl,l1,g1⟩:=vp hK;exact⟨ad,A1,c1,e,hc 0 _ rfl,by rw[<-bV _ _ 1 (by omega)];exact hc 1 _ rfl,l1,g1⟩
structure bL where
 f0:(List ig)
 f1:(List iX)
 f2:(List iB)
 f3:(List jw)
 f4:(List dV)
 f5:(List jg)
 f6:(List eF)
 f7:(List jA)
def bZ:Kd bL:=Kd.Gy (Kd.pair (Kd.slice 40 qo) (Kd.pair (Kd.slice 72 j8) (Kd.pair (Kd.slice 59 fL) (Kd.pair (Kd.slice 74 jQ) (Kd.pair (Kd.slice 55 eE) (Kd.pair (Kd.slice 86 lW) (Kd.pair (Kd.slice 76 fM) (Kd.slice 53 kH)))))))) (fun x:bL=>(x.f0,x.f1,x.f2,x.f3,x.f4,x.f5,x.f6,x.f7))
theorem aD{w:World}{x:bL}{cs:List Value}(h:bZ.K w x cs): ∃A0 c0 A1 c1 A2 c2 A3 c3 A4 c4 A5 c5 A6 c6 A7 c7,cs= [.slice A0 x.f0.length c0,.slice A1 x.f1.length c1,.slice A2 x.f2.length c2,.slice A3 x.f3.length c3,.slice A4 x.f4.length c4,.slice A5 x.f5.length c5,.slice A6 x.f6.length c6,.slice A7 x.f7.length c7]/\x.f0.length<=c0/\qo.C w A0 x.f0.length x.f0/\x.f1.length<=c1/\j8.C w A1 x.f1.length x.f1/\x.f2.length<=c2/\fL.C w A2 x.f2.length x.f2/\x.f3.length<=c3/\jQ.C w A3 x.f3.length x.f3/\x.f4.length<=c4/\eE.C w A4 x.f4.length x.f4/\x.f5.length<=c5/\lW.C w A5 x.f5.length x.f5/\x.f6.length<=c6/\fM.C w A6 x.f6.length x.f6/\x.f7.length<=c7/\kH.C w A7 x.f7.length x.f7:=by
 obtain⟨_,_,rfl,⟨A0,c0,rfl,l0,g0⟩,⟨_,_,rfl,⟨A1,c1,rfl,l1,g1⟩,⟨_,_,rfl,⟨A2,c2,rfl,l2,g2⟩,⟨_,_,rfl,⟨A3,c3,rfl,l3,g3⟩,⟨_,_,rfl,⟨A4,c4,rfl,l4,g4⟩,⟨_,_,rfl,⟨A5,c5,rfl,l5,g5⟩,⟨_,_,rfl,⟨A6,c6,rfl,l6,g6⟩,⟨A7,c7,rfl,l7,g7⟩⟩⟩⟩⟩⟩⟩⟩:=h;exact⟨A0,c0,A1,c1,A2,c2,A3,c3,A4,c4,A5,c5,A6,c6,A7,c7,rfl,l0,g0,l1,g1,l2,g2,l3,g3,l4,g4,l5,g5,l6,g6,l7,g7⟩
theorem kz(w:World)(x:bL){A0:Option Addr}{c0:Nat}(l0:x.f0.length<=c0)(g0:qo.C w A0 x.f0.length x.f0){A1:Option Addr}{c1:Nat}(l1:x.f1.length<=c1)(g1:j8.C w A1 x.f1.length x.f1){A2:Option Addr}{c2:Nat}(l2:x.f2.length<=c2)(g2:fL.C w A2 x.f2.length x.f2){A3:Option Addr}{c3:Nat}(l3:x.f3.length<=c3)(g3:jQ.C w A3 x.f3.length x.f3){A4:Option Addr}{c4:Nat}(l4:x.f4.length<=c4)(g4:eE.C w A4 x.f4.length x.f4){A5:Option Addr}{c5:Nat}(l5:x.f5.length<=c5)(g5:lW.C w A5 x.f5.length x.f5){A6:Option Addr}{c6:Nat}(l6:x.f6.length<=c6)(g6:fM.C w A6 x.f6.length x.f6){A7:Option Addr}{c7:Nat}(l7:x.f7.length<=c7)(g7:kH.C w A7 x.f7.length x.f7):bZ.K w x [.slice A0 x.f0.length c0,.slice A1 x.f1.length c1,.slice A2 x.f2.length c2,.slice A3 x.f3.length c3,.slice A4 x.f4.length c4,.slice A5 x.f5.length c5,.slice A6 x.f6.length c6,.slice A7 x.f7.length c7]:=⟨[.slice A0 x.f0.length c0],[.slice A1 x.f1.length c1,.slice A2 x.f2.length c2,.slice A3 x.f3.length c3,.slice A4 x.f4.length c4,.slice A5 x.f5.length c5,.slice A6 x.f6.length c6,.slice A7 x.f7.length c7],rfl,⟨A0,c0,rfl,l0,g0⟩,⟨[.slice A1 x.f1.length c1],[.slice A2 x.f2.length c2,.slice A3 x.f3.length c3,.slice A4 x.f4.length c4,.slice A5 x.f5.length c5,.slice A6 x.f6.length c6,.slice A7 x.f7.length c7],rfl,⟨A1,c1,rfl,l1,g1⟩,⟨[.slice A2 x.f2.length c2],[.slice A3 x.f3.length c3,.slice A4 x.f4.length c4,.slice A5 x.f5.length c5,.slice A6 x.f6.length c6,.slice A7 x.f7.length c7],rfl,⟨A2,c2,rfl,l2,g2⟩,⟨[.slice A3 x.f3.length c3],[.slice A4 x.f4.length c4,.slice A5 x.f5.length c5,.slice A6 x.f6.length c6,.slice A7 x.f7.length c7],rfl,⟨A3,c3,rfl,l3,g3⟩,⟨[.slice A4 x.f4.length c4],[.slice A5 x.f5.length c5,.slice A6 x.f6.length c6,.slice A7 x.f7.length c7],rfl,⟨A4,c4,rfl,l4,g4⟩,⟨[.slice A5 x.f5.length c5],[.slice A6 x.f6.length c6,.slice A7 x.f7.length c7],rfl,⟨A5,c5,rfl,l5,g5⟩,⟨[.slice A6 x.f6.length c6],[.slice A7 x.f7.length c7],rfl,⟨A6,c6,rfl,l6,g6⟩,⟨A7,c7,rfl,l7,g7⟩⟩⟩⟩⟩⟩⟩⟩
structure xB where
 f0:Int
 f1:ig
 f2:Int
 f3:Bool
def IU:xB:=⟨(0:Int),cv,(0:Int),false⟩
def L3:Kd xB:=Kd.Gy (Kd.pair (Kd.int .i64) (Kd.pair qo (Kd.pair (Kd.int .i64) Kd.bool))) (fun x:xB=>(x.f0,x.f1,x.f2,x.f3))
theorem kV{w:World}{base:Nat}{ok:Nat->Prop}{x:xB}{cs:List Value}(h:L3.M w base ok x cs): ∃v1 v2,cs= [.int .i64 x.f0,v1,v2,.int .i64 x.f2,.bool x.f3]/\(Kd.int .i64).R 3 w base ok v1 x.f1.f0/\(Kd.int .i64).R 3 w base ok v2 x.f1.f1:=by
 obtain⟨_,_,rfl,rfl,⟨_,_,rfl,s1,⟨_,_,rfl,rfl,rfl⟩⟩⟩:=h;obtain⟨v1,v2,rfl,g1,g2⟩:=J6 s1;exact⟨v1,v2,rfl,g1,g2⟩
theorem xC(w:World)(base:Nat)(ok:Nat->Prop)(x:xB){v1:Value}(g1:(Kd.int .i64).R 3 w base ok v1 x.f1.f0){v2:Value}(g2:(Kd.int .i64).R 3 w base ok v2 x.f1.f1):L3.M w base ok x [.int .i64 x.f0,v1,v2,.int .i64 x.f2,.bool x.f3]:=⟨[.int .i64 x.f0],[v1,v2,.int .i64 x.f2,.bool x.f3],rfl,rfl,⟨[v1,v2],[.int .i64 x.f2,.bool x.f3],rfl,(QC w base ok x.f1 g1 g2),⟨[.int .i64 x.f2],[.bool x.f3],rfl,rfl,rfl⟩⟩⟩
def bB(xs:List xB)(i:Int):xB:=xs.getD i.toNat IU
structure jb where
 f0:Int
 f1:Int
 f2:Int
def su:jb:=⟨(0:Int),(0:Int),(0:Int)⟩
def wF:Kd jb:=Kd.Gy (Kd.pair (Kd.int .i64) (Kd.pair (Kd.int .i64) (Kd.int .i64))) (fun x:jb=>(x.f0,x.f1,x.f2))
theorem nJ{w:World}{base:Nat}{ok:Nat->Prop}{x:jb}{cs:List Value}(h:wF.M w base ok x cs):cs= [.int .i64 x.f0,.int .i64 x.f1,.int .i64 x.f2]:=by
 obtain⟨_,_,rfl,rfl,⟨_,_,rfl,rfl,rfl⟩⟩:=h;exact rfl
theorem oq(w:World)(base:Nat)(ok:Nat->Prop)(x:jb):wF.M w base ok x [.int .i64 x.f0,.int .i64 x.f1,.int .i64 x.f2]:=⟨[.int .i64 x.f0],[.int .i64 x.f1,.int .i64 x.f2],rfl,rfl,⟨[.int .i64 x.f1],[.int .i64 x.f2],rfl,rfl,rfl⟩⟩
def dZ(xs:List jb)(i:Int):jb:=xs.getD i.toNat su
abbrev kM(f:xB)(A:Option Addr)(c:Nat)(B:Option Addr)(d:Nat):Obj:= .cells #[.int .i64 f.f0,.slice A f.f1.f0.length c,.slice B f.f1.f1.length d,.int .i64 f.f2,.bool f.f3] 113
abbrev QI(t:ig)(A:Option Addr)(c:Nat)(B:Option Addr)(d:Nat):Obj:= .cells #[.slice A t.f0.length c,.slice B t.f1.length d] 40
abbrev cO(w:World)(base:Nat)(v:Value)(xs:List Int):Prop:=(Kd.int .i64).R 3 w base (fun _=>True) v xs
abbrev bf(w:World)(A:Option Addr)(xs:List Int):Prop:=(Kd.int .i64).C w A xs.length xs
theorem yG{w:World}{base g e:Nat}{xs:List Value}(hb:w.heap[g]? =some (.cells xs.toArray e (0,0)))(hbase:base<=g)(hm:xs.length<=maxLen):w.ownsRow base e 1 (.slice (some ⟨g,0,none⟩) xs.length xs.length) xs.length xs:=by
 refine⟨by simp,.inr ⟨g,xs.length,xs.toArray,rfl,hbase,hb,?_⟩⟩;simp[hm]
theorem dW{w:World}{base g:Nat}{xs:List Int}(hb:w.heap[g]? =some (.cells (encs (Value.int .i64) xs).toArray 3 (0,0)))(hbase:base<=g)(hm:xs.length<=maxLen):cO w base (.slice (some ⟨g,0,none⟩) xs.length xs.length) xs:=by
 have h:=yG hb hbase (by simpa[encs]using hm);have e:(encs (Value.int .i64) xs).length=xs.length:=by simp[encs]
 rw[e]at h;exact Kd.Eh h (fun _ _=>trivial)
theorem bq(n m:Int)(w:World):Calls prog 43 #[.int .i64 n,.int .i64 m] w fun e w'=>e= .returned (.bool (Sp.within n 0 (m-1)))/\w=w':=by
 go_enter func43,ntmps43
 go_wp2
 all_goals
  go_ret;refine⟨congrArg (fun b=>Ending.returned (.bool b)) ?_,rfl⟩
  first|rfl|(rw[Bool.eq_iff_iff];simp only[Sp.within,beq_iff_eq,bne_iff_ne,ne_eq,beq_eq_false_iff_ne,bne_eq_false_iff_eq,Bool.or_eq_true,Bool.and_eq_true,Bool.not_eq_true',decide_eq_true_eq,iy,true_iff,iff_true,false_iff,iff_false,Bool.false_eq_true]at *;omega)
theorem aT(n m:Int)(w:World):Calls prog 137 #[.int .i64 n,.int .i64 m] w fun e w'=>e= .returned (.bool (Sp.within n 0 (m-1)))/\w=w':=by
 go_enter func137,ntmps137
 go_wp2
 all_goals
  go_ret;refine⟨congrArg (fun b=>Ending.returned (.bool b)) ?_,rfl⟩
  first|rfl|(rw[Bool.eq_iff_iff];simp only[Sp.within,beq_iff_eq,bne_iff_ne,ne_eq,beq_eq_false_iff_ne,bne_eq_false_iff_eq,Bool.or_eq_true,Bool.and_eq_true,Bool.not_eq_true',decide_eq_true_eq,iy,true_iff,iff_true,false_iff,iff_false,Bool.false_eq_true]at *;omega)
theorem Es(n a b:Int)(w:World):Calls prog 219 #[.int .i64 n,.int .i64 a,.int .i64 b] w fun e w'=>e= .returned (.bool (Sp.within n a b))/\w=w':=by
 go_enter func219,ntmps219
 go_wp2
 all_goals
  go_ret;refine⟨congrArg (fun b=>Ending.returned (.bool b)) ?_,rfl⟩
  first|rfl|(rw[Bool.eq_iff_iff];simp only[Sp.within,beq_iff_eq,bne_iff_ne,ne_eq,beq_eq_false_iff_ne,bne_eq_false_iff_eq,Bool.or_eq_true,Bool.and_eq_true,Bool.not_eq_true',decide_eq_true_eq,iy,true_iff,iff_true,false_iff,iff_false,Bool.false_eq_true]at *;omega)
theorem gK(op:Int)(w:World):Calls prog 87 #[.int .i64 op] w fun e w'=>e= .returned (.bool (Sp.opens op))/\w=w':=by
 go_enter func87,ntmps87
 go_wp2
 all_goals
  go_ret;refine⟨congrArg (fun b=>Ending.returned (.bool b)) ?_,rfl⟩
  first|rfl|(rw[Bool.eq_iff_iff];simp only[Sp.opens,Sp.within,beq_iff_eq,bne_iff_ne,ne_eq,beq_eq_false_iff_ne,bne_eq_false_iff_eq,Bool.or_eq_true,Bool.and_eq_true,Bool.not_eq_true',decide_eq_true_eq,iy,true_iff,iff_true,false_iff,iff_false,Bool.false_eq_true]at *;omega)
theorem yH(op:Int)(w:World):Calls prog 163 #[.int .i64 op] w fun e w'=>e= .returned (.bool (Sp.within op 54 62))/\w=w':=by
 go_enter func163,ntmps163
 go_wp2
 all_goals
  go_ret;refine⟨congrArg (fun b=>Ending.returned (.bool b)) ?_,rfl⟩
  first|rfl|(rw[Bool.eq_iff_iff];simp only[Sp.within,beq_iff_eq,bne_iff_ne,ne_eq,beq_eq_false_iff_ne,bne_eq_false_iff_eq,Bool.or_eq_true,Bool.and_eq_true,Bool.not_eq_true',decide_eq_true_eq,iy,true_iff,iff_true,false_iff,iff_false,Bool.false_eq_true]at *;omega)
theorem fZ(t:Int)(w:World):Calls prog 67 #[.int .i64 t] w fun e w'=>e= .returned (.bool (Sp.within t 0 2147483647))/\w=w':=by
 go_enter func67,ntmps67
 go_wp2
 all_goals
  go_ret;refine⟨congrArg (fun b=>Ending.returned (.bool b)) ?_,rfl⟩
  first|rfl|(rw[Bool.eq_iff_iff];simp only[Sp.within,beq_iff_eq,bne_iff_ne,ne_eq,beq_eq_false_iff_ne,bne_eq_false_iff_eq,Bool.or_eq_true,Bool.and_eq_true,Bool.not_eq_true',decide_eq_true_eq,iy,true_iff,iff_true,false_iff,iff_false,Bool.false_eq_true]at *;omega)
theorem xD(op:Int)(w:World):Calls prog 193 #[.int .i64 op] w fun e w'=>e= .returned (.bool (Sp.isInt op))/\w=w':=by
 go_enter func193,ntmps193
 go_wp2_with (first|(go_at_call 219;refine(Es _ _ _ _).mono ?_;rintro e w'⟨rfl,rfl⟩))
 all_goals
  go_ret;refine⟨congrArg (fun b=>Ending.returned (.bool b)) ?_,rfl⟩
  first|rfl|(rw[Bool.eq_iff_iff];simp only[Sp.isInt,Sp.within,beq_iff_eq,bne_iff_ne,ne_eq,beq_eq_false_iff_ne,bne_eq_false_iff_eq,Bool.or_eq_true,Bool.and_eq_true,Bool.not_eq_true',decide_eq_true_eq,iy,true_iff,iff_true,false_iff,iff_false,Bool.false_eq_true]at *;omega)
theorem rN(op:Int)(w:World):Calls prog 194 #[.int .i64 op] w fun e w'=>e= .returned (.bool (Sp.mV op))/\w=w':=by
 go_enter func194,ntmps194
 go_wp2
 all_goals
  go_ret;refine⟨congrArg (fun b=>Ending.returned (.bool b)) ?_,rfl⟩
  first|rfl|(rw[Bool.eq_iff_iff];simp only[Sp.mV,beq_iff_eq,bne_iff_ne,ne_eq,beq_eq_false_iff_ne,bne_eq_false_iff_eq,Bool.or_eq_true,Bool.and_eq_true,Bool.not_eq_true',decide_eq_true_eq,iy,true_iff,iff_true,false_iff,iff_false,Bool.false_eq_true]at *;omega)
theorem IV(op:Int)(w:World):Calls prog 41 #[.int .i64 op] w fun e w'=>e= .returned (.bool (Sp.isInt op))/\w=w':=by
 go_enter func41,ntmps41
 go_wp2
 all_goals
  go_ret;refine⟨congrArg (fun b=>Ending.returned (.bool b)) ?_,rfl⟩
  first|rfl|(rw[Bool.eq_iff_iff];simp only[Sp.isInt,beq_iff_eq,bne_iff_ne,ne_eq,beq_eq_false_iff_ne,bne_eq_false_iff_eq,Bool.or_eq_true,Bool.and_eq_true,Bool.not_eq_true',decide_eq_true_eq,iy,true_iff,iff_true,false_iff,iff_false,Bool.false_eq_true]at *;omega)
theorem IW(op:Int)(w:World):Calls prog 42 #[.int .i64 op] w fun e w'=>e= .returned (.bool (Sp.mV op))/\w=w':=by
 go_enter func42,ntmps42
 go_wp2
 all_goals
  go_ret;refine⟨congrArg (fun b=>Ending.returned (.bool b)) ?_,rfl⟩
  first|rfl|(rw[Bool.eq_iff_iff];simp only[Sp.mV,beq_iff_eq,bne_iff_ne,ne_eq,beq_eq_false_iff_ne,bne_eq_false_iff_eq,Bool.or_eq_true,Bool.and_eq_true,Bool.not_eq_true',decide_eq_true_eq,iy,true_iff,iff_true,false_iff,iff_false,Bool.false_eq_true]at *;omega)
theorem ot(op:Int)(w:World):Calls prog 152 #[.int .i64 op] w fun e w'=>e= .returned (.tuple #[.int .i64 (Sp.dx op),.bool (decide (Sp.dx op≠0))])/\w=w':=by
 go_enter func152,ntmps152
 go_wp2
 all_goals
  go_ret2;refine⟨congrArg (fun b:Int×Bool=>Ending.returned (.tuple #[.int .i64 b.1,.bool b.2])) (a₁:=(_,_)) (a₂:=(Sp.dx op,decide (Sp.dx op≠0))) ?_,rfl⟩
  simp_all [Sp.dx]
theorem CH{fn:Func}{t u v x:Tmp}(h:fn.results=#[.tmp t,.tmp u,.tmp v,.tmp x])(tmps:Array Value)(P:Program)(w:World):
 (results fn tmps).run P w= .ok (.tuple #[tmps.getD t undef,tmps.getD u undef,tmps.getD v undef,tmps.getD x undef]) w:=by
 simp[results,h]
theorem jh(op:Int)(w:World):Calls prog 88 #[.int .i64 op] w fun e w'=>e= .returned (.tuple #[.int .i64 (Sp.mW op),.int .i64 (Sp.jX op),.bool (Sp.tN op),.bool (Sp.eD op)])/\w=w':=by
 go_enter func88,ntmps88
 go_wp2
 all_goals
  (try simp only[Exit.inBlock,Exit.then])
  refine bodyPost_ret (CH rfl _ _ _) rfl ⟨?_,rfl⟩;refine congrArg (fun b:Int×Int×Bool×Bool=>Ending.returned (Value.tuple #[.int .i64 b.1,.int .i64 b.2.1,.bool b.2.2.1,.bool b.2.2.2])) (a₁:=(_,_,_,_)) (a₂:=(Sp.mW op,Sp.jX op,Sp.tN op,Sp.eD op)) ?_
  simp_all [Sp.mW,Sp.tM,Sp.jX,Sp.tN,Sp.eD]
theorem alloc_at{w:World}{o:Obj}{k:Nat}(h:k=w.heap.size):(w.alloc o).heap[k]? =some o:=h▸dh w o
theorem iP{w:World}{o:Obj}{k:Nat}(h:k<w.heap.size):(w.alloc o).heap[k]? =w.heap[k]? :=Below.heap_alloc w o k h
theorem fN{n:Nat}(h:n<=1000000):n<=maxLen:=by unfold maxLen;omega
theorem IX(a b:Int)(w:World):Calls prog 198 #[.int .i64 a,.int .i64 b] w fun e w'=>e= .returned (.agg #[.slice (some ⟨w.heap.size+1,0,none⟩) 1 1,.slice (some ⟨w.heap.size+1+1,0,none⟩) 1 1])/\w'=((w.alloc (.cells #[.slice (some ⟨w.heap.size+1,0,none⟩) 1 1,.slice (some ⟨w.heap.size+1+1,0,none⟩) 1 1] 178)).alloc (.cells #[.int .i64 a] 3)).alloc (.cells #[.int .i64 b] 3):=by
 go_enter func198,ntmps198
 go_wp2
 refine bodyPost_ret (v:= .agg #[.slice (some ⟨w.heap.size+1,0,none⟩) 1 1,.slice (some ⟨w.heap.size+1+1,0,none⟩) 1 1]) ?_ rfl ⟨rfl,rfl⟩;simp[results,results198,go_sem]
theorem QJ(a b:Int)(w:World):Calls prog 199 #[.int .i64 a,.int .i64 b] w fun e w'=>e= .returned (.agg #[.slice (some ⟨w.heap.size+1,0,none⟩) 2 2,.slice (some ⟨w.heap.size+1+1,0,none⟩) 1 1])/\w'=((w.alloc (.cells #[.slice (some ⟨w.heap.size+1,0,none⟩) 2 2,.slice (some ⟨w.heap.size+1+1,0,none⟩) 1 1] 178)).alloc (.cells #[.int .i64 a,.int .i64 a] 3)).alloc (.cells #[.int .i64 b] 3):=by
 go_enter func199,ntmps199
 go_wp2
 refine bodyPost_ret (v:= .agg #[.slice (some ⟨w.heap.size+1,0,none⟩) 2 2,.slice (some ⟨w.heap.size+1+1,0,none⟩) 1 1]) ?_ rfl ⟨rfl,rfl⟩;simp[results,results199,go_sem]
def mY(ok:Bool)(P R:List Int)(w:World)(e:Ending)(w':World):Prop:=
 ∃v1 v2,e= .returned (.tuple #[.agg #[v1,v2],.bool ok])/\cO w' w.heap.size v1 P/\cO w' w.heap.size v2 R/\Below w.heap.size w w'
theorem Bv{w W:World}{g1 g2:Nat}(P R:List Int){ok ok':Bool}{P' R':List Int}(h1:W.heap[g1]? =some (.cells (encs (Value.int .i64) P).toArray 3 (0,0)))(h2:W.heap[g2]? =some (.cells (encs (Value.int .i64) R).toArray 3 (0,0)))
 (l1:P.length<=1000000) (l2:R.length<=1000000) (b1:w.heap.size<=g1) (b2:w.heap.size<=g2) (hb:Below w.heap.size w W) (hx:(ok,P,R)=(ok',P',R')):
 mY ok' P' R' w (.returned (.tuple #[.agg #[.slice (some ⟨g1,0,none⟩) P.length P.length,.slice (some ⟨g2,0,none⟩) R.length R.length],.bool ok])) W:=by
 injection hx with e1 e2;injection e2 with e2 e3;subst e1 e2 e3;exact⟨_,_,rfl,dW h1 b1 (fN l1),dW h2 b2 (fN l2),hb⟩
theorem Et{w W:World}{ok':Bool}{P' R':List Int}(hb:Below w.heap.size w W)(hx:(false,([]:List Int),([]:List Int))=(ok',P',R')):
 mY ok' P' R' w (.returned (.tuple #[.agg #[.slice none 0 0,.slice none 0 0],.bool false])) W:=by
 injection hx with e1 e2;injection e2 with e2 e3;subst e1 e2 e3;exact⟨_,_,rfl,Kd.fS _ _ _ _ _,Kd.fS _ _ _ _ _,hb⟩
theorem dY{w:World}{base:Nat}{v:Value}{xs:List Int}(h:cO w base v xs){p:Addr}(hp:p.block<base)(u:Value):cO (w.setCell p u) base v xs:=
 Kd.bQ (Kd.dr (Kd.fW h) (fun k hk=>by have:=hk.2.1;omega) u) (fun _ _=>trivial)
theorem Bw(op:Int)(w:World):Calls prog 197 #[.int .i64 op] w (mY (Sp.pW op) (Sp.yA op) (Sp.yB op) w):=by
 go_enter func197,ntmps197
 go_wp2_with (go_at_call 198;refine(IX _ _ _).mono ?_;rintro e w'⟨rfl,rfl⟩)
 all_goals
  refine bodyPost_ret (v:=_) (by simp[results,results197,go_sem];rfl) rfl ?_
  first
  |(refine Bv [_] [_] (by repeat (first|(refine alloc_at ?_;(simp;done))|(refine(iP ?_).trans ?_;· (simp<;>omega)))) (by repeat (first|(refine alloc_at ?_;(simp;done))|(refine(iP ?_).trans ?_;· (simp<;>omega)))) (by simp) (by simp) (by omega) (by omega) (by repeat (first|exact ay _ _|refine af ?_ _)) ?_;simp_all [Sp.yA,Sp.yB,Sp.pW,Sp.fR,Sp.gH,Sp.yz,Sp.CC,Sp.GJ,Sp.fB,Sp.isInt,Sp.mV])
  |(have ht:Sp.pW op=false:=(by simp only[Sp.pW,iy,beq_eq_false_iff_ne,ne_eq]at *;omega)
    refine Et (by repeat (first|exact ay _ _|refine af ?_ _)) ?_;simp[Sp.yA,Sp.yB,ht])
theorem J8{xs ys:List Int}{k:Nat}(h:xs.take k=ys.take k)(hx:k<xs.length)(hy:k<ys.length)(he:xs.getD k 0=ys.getD k 0):xs.take (k+1)=ys.take (k+1):=by
 rw[List.take_succ_eq_append_getElem hx,List.take_succ_eq_append_getElem hy,h];simp[gq,hx,hy]at he;rw[he]
theorem MG{xs ys:List Int}(h:xs.take xs.length=ys.take xs.length)(hl:xs.length=ys.length):xs=ys:=by
 rw[List.take_of_length_le (aU _),hl,List.take_of_length_le (aU _)]at h;exact h
theorem dd(w:World)(m n:Nat):(w.drewN m).drewN n=w.drewN (m+n):=by simp
def Ka(b:Bool)(w:World)(e:Ending)(w':World):Prop:=e= .returned (.bool b)/\ ∃n,w'=w.drewN n
theorem iE(A B:Option Addr)(cA cB:Nat)(xs ys:List Int)(w:World)(hx:bf w A xs)(hy:bf w B ys):
 Calls prog 148 #[.slice A xs.length cA,.slice B ys.length cB] w (Ka (decide (xs=ys)) w):=by
 have mx:=Kd.qy hx;have HX:=hd hx;have HY:=hd hy;clear hx hy;by_cases hl:xs.length=ys.length
 ·have Am:((xs.length:Int) !=(ys.length:Int))=false:=by simp[hl]
  have HL:=hd hl;clear hl
  go_enter func148,ntmps148
  go_wp2
  go_loopw [13] (fun i wr=> ∃k m:Nat,k<=xs.length/\i= .int .i64 k/\Hid (xs.take k=ys.take k)/\wr=w.drewN m) (fun i _=>xs.length-(intOf i).toNat)
  case atStart=>exact⟨0,0,by omega,rfl,hd rfl,rfl⟩
  case round=>
   obtain⟨k,m,hk,rfl,ht,rfl⟩:=hrel;by_cases bI:k<xs.length
   ·have CI:k<ys.length:=by have:=HL.o;omega
    obtain⟨ad,e1,hc1⟩:=Kd.fQ HX.o (k:Int) (by omega) (by omega);obtain⟨bd,e2,hc2⟩:=Kd.fQ HY.o (k:Int) (by omega) (by omega);subst e1 e2;rw[dF]at hc1 hc2;have d1:(w.drewN m).cell? (ad.add k)=some (.int .i64 (rd xs k)):=hc1;have d2:(w.drewN m).cell? (bd.add k)=some (.int .i64 (rd ys k)):=hc2;by_cases he:rd xs k=rd ys k
    ·have GQ:(rd xs k !=rd ys k)=false:=by simp[he]
     have HE:=hd he;clear he
     go_wp2
     go_quiet (fail)
     go_wp2
     go_roundw
     case rel=>exact⟨k+1,_,by omega,by go_num,hd (J8 ht.o bI CI (by have:=HE.o;simpa[rd]using this)),rfl⟩
     case measure=>simp[intOf];omega
    ·have GQ:(rd xs k !=rd ys k)=true:=by simp[he]
     have HE:=hd he;clear he
     go_wp2
     go_quiet (fail)
     go_wp2
     go_ret;refine⟨congrArg (fun b=>Ending.returned (.bool b)) ?_,_,dd _ _ _⟩;symm;rw[iy];rintro rfl;exact HE.o rfl
   ·go_wp2
    go_ret;refine⟨congrArg (fun b=>Ending.returned (.bool b)) ?_,_,rfl⟩;symm;rw[decide_eq_true_iff];have:k=xs.length:=by omega
    subst this;exact MG ht.o HL.o
 ·have Am:((xs.length:Int) !=(ys.length:Int))=true:=by simp;omega
  have HL:=hd hl;clear hl
  go_enter func148,ntmps148
  go_wp2
  go_ret;refine⟨congrArg (fun b=>Ending.returned (.bool b)) ?_,0,rfl⟩;symm;rw[iy];rintro rfl;exact HL.o rfl
theorem cQ:(prog.info? 3).map (fun i=>(i.zero,i.size,i.bytes))=some (some (.int .i64 0),(Kd.int .i64).sz,8):=by kernel_rfl
def CJ(xs:List Int)(w:World)(e:Ending)(w':World):Prop:= ∃v,e= .returned v/\cO w' w.heap.size v xs/\Below w.heap.size w w'
theorem tS(A:Option Addr)(c:Nat)(xs:List Int)(w:World)(hx:bf w A xs)(hl:xs.length*8<=140737488355328):
 Calls prog 51 #[.slice A xs.length c] w (CJ xs w):=by
 cases A with
 |none=>
  have e0:xs= []:=by
   rcases Nat.eq_zero_or_pos xs.length with h|h
   ·exact List.eq_nil_of_length_eq_zero h
   ·obtain⟨ad,h,_⟩:=hx.2.2 h
    cases h
  subst e0;clear hx hl;have he: ∀w:World,(binOp .eql 23 (.slice none 0 c) (.slice none 0 0)).run prog w= .ok (.bool true) w:=fun(w:World)=>Lib.run_eql_slice_nil (P:=prog) w 23 3 none 0 c 0 0 underlying23
  go_enter func51,ntmps51
  go_wp2
  go_ret;exact⟨_,rfl,Kd.fS _ _ _ _ _,ay _ _⟩
 |some ad=>
  have he: ∀w:World,(binOp .eql 23 (.slice (some ad) xs.length c) (.slice none 0 0)).run prog w= .ok (.bool false) w:=fun(w:World)=>Lib.run_eql_slice_nil (P:=prog) w 23 3 (some ad) xs.length c 0 0 underlying23
  have HX:=hd hx;have HL:=hd hl;clear hx hl
  go_enter func51,ntmps51
  go_wp2_with (at_builtin;(refine Kd.fF (Kd.int .i64) (w0:=w) w.heap.size rfl (.tmp 5) (.tmp 6) 23 3 (.int .i64 0) 8 rfl underlying23 cQ rfl Nat.zero_lt_one (dG 7) _ [] xs (some ad) xs.length c (fun _=>True) (fun _=>False) rfl rfl ?ho ?hr (fun _ _ h=>h) (fun _ h=>h.elim) (fun _ _=>trivial) ?hb ?hsz ?hl2 ?_);(case ho=>exact dW (xs:= []) (alloc_at rfl) (aU _) (fN (by simp)));(case hr=>exact Kd.aS HX.o _);(case hb=>exact af (ay _ _) _);(case hsz=>simp);(case hl2=>have:=HL.o;simpa using this);intro v1 w1 hR hB hG hat)
  go_wp2
  go_ret;exact⟨_,rfl,hR,hB⟩
end Go.Proofs.YthehihjcpiadgaaGreat
