import Derived.Test.YthehihjcpiadgaaGreatCheckMadeLA
set_option maxRecDepth 100000
set_option maxHeartbeats 0
set_option linter.all false
open Go.Proofs.Tryz
namespace Go.Proofs.YthehihjcpiadgaaGreat
open Go.RowKit Go.Proofs.Wz.PrintWords Go.Proofs.Wz.bM
def CR(ok:Bool)(P R:List Int)(w:World)(e:Ending)(w':World):Prop:=
 ∃v1 v2,e= .returned (.tuple #[v1,v2,.bool ok])/\cO w' w.heap.size v1 P/\cO w' w.heap.size v2 R/\Below w.heap.size w w'
theorem Jo{w W:World}{g1 g2:Nat}(P R:List Int){v1 v2:Value}(e1:v1= .slice (some ⟨g1,0,none⟩) P.length P.length)(e2:v2= .slice (some ⟨g2,0,none⟩) R.length R.length)(h1:W.heap[g1]? =some (.cells (encs (Value.int .i64) P).toArray 3 (0,0)))(h2:W.heap[g2]? =some (.cells (encs (Value.int .i64) R).toArray 3 (0,0)))
 (l1:P.length<=1000000) (l2:R.length<=1000000) (b1:w.heap.size<=g1) (b2:w.heap.size<=g2) (hb:Below w.heap.size w W) {op:Int} (hx:(true,P,R)=(Sp.fB op,Sp.fR op,Sp.gH op)):
 CR (Sp.fB op) (Sp.fR op) (Sp.gH op) w (.returned (.tuple #[v1,v2,.bool true])) W:=by
 injection hx with e3 e4;injection e4 with e4 e5;rw[<-e3,<-e4,<-e5];subst e1 e2;exact⟨_,_,rfl,dW h1 b1 (fN l1),dW h2 b2 (fN l2),hb⟩
theorem uj(op:Int)(w:World)(hn:Sp.fB op=false):Calls prog 19 #[.int .i64 op] w (CR (Sp.fB op) (Sp.fR op) (Sp.gH op) w):=by
 rw[show Sp.fR op= [] by simp[Sp.fR,hn],show Sp.gH op= [] by simp[Sp.gH,hn],hn];have h:=hn;rw[Sp.fB,Bool.or_eq_false_iff]at h;have c0: ∀w,Calls prog 41 #[.int .i64 op] w (fun e w'=>e= .returned (.bool false)/\w=w'):=fun w=>by have:=IV op w;rwa[h.1]at this
 have c2: ∀w,Calls prog 42 #[.int .i64 op] w (fun e w'=>e= .returned (.bool false)/\w=w'):=fun w=>by have:=IW op w;rwa[h.2]at this
 have H0:=hd c0;have H2:=hd c2;clear c0 c2 h hn
 go_enter func19,ntmps19
 go_wp2_with (first|(go_at_call 41;refine(H0.o _).mono ?_;rintro e w'⟨rfl,rfl⟩)|(go_at_call 42;refine(H2.o _).mono ?_;rintro e w'⟨rfl,rfl⟩))
 go_ret3;exact⟨_,_,rfl,Kd.fS _ _ _ _ _,Kd.fS _ _ _ _ _,ay _ _⟩
theorem uk(op:Int)(w:World)(bi:Bool)(MH:Sp.isInt op=bi)(hn:Sp.fB op=true):Calls prog 19 #[.int .i64 op] w (CR (Sp.fB op) (Sp.fR op) (Sp.gH op) w):=by
 have c0: ∀w,Calls prog 41 #[.int .i64 op] w (fun e w'=>e= .returned (.bool bi)/\w=w'):=fun w=>by rw[<-MH];exact IV op w
 have c2:bi=false-> ∀w,Calls prog 42 #[.int .i64 op] w (fun e w'=>e= .returned (.bool true)/\w=w'):=fun h w=>by
  have:=IW op w
  rwa[show Sp.mV op=true by rw[Sp.fB,MH,h]at hn;simpa using hn]at this
 have HN:=hd hn;have H0:=hd c0;clear c0 MH hn;cases bi
 all_goals
  first|have H2:=hd (c2 rfl)|have H2:Hid True:=hd trivial
  clear c2
  go_enter func19,ntmps19
  go_wp2_with (first|(go_at_call 41;refine(H0.o _).mono ?_;rintro e w'⟨rfl,rfl⟩)|(go_at_call 42;refine(H2.o _).mono ?_;rintro e w'⟨rfl,rfl⟩))
  all_goals
   go_ret3
   go_light
   have hq:=HN.o;have hn:=HN.o;simp only[Sp.fB,Sp.isInt,Sp.mV]at hq;simp only[beq_iff_eq,beq_eq_false_iff_ne,ne_eq,decide_eq_true_eq,iy,Bool.or_eq_true,Bool.and_eq_true,Int.not_lt,Int.not_le]at *
   first
   |(refine Jo [_] [_] rfl rfl (by repeat (first|(refine alloc_at ?_;(simp;done))|(refine(iP ?_).trans ?_;· (simp<;>omega)))) (by repeat (first|(refine alloc_at ?_;(simp;done))|(refine(iP ?_).trans ?_;· (simp<;>omega)))) (by simp) (by simp) (by omega) (by omega) (by repeat (first|exact ay _ _|refine af ?_ _)) ?_
     refine rO hn (c:=1) ?_ ?_ ?_ rfl rfl
     ·unfold Sp.GJ;(repeat' split)<;>omega
     ·unfold Sp.CC;(repeat' split)<;>omega
     ·unfold Sp.yz;(repeat' split)<;>omega)
   |(refine Jo [_,_] [_] rfl rfl (by repeat (first|(refine alloc_at ?_;(simp;done))|(refine(iP ?_).trans ?_;· (simp<;>omega)))) (by repeat (first|(refine alloc_at ?_;(simp;done))|(refine(iP ?_).trans ?_;· (simp<;>omega)))) (by simp) (by simp) (by omega) (by omega) (by repeat (first|exact ay _ _|refine af ?_ _)) ?_
     refine rO hn (c:=2) ?_ ?_ ?_ rfl rfl
     ·unfold Sp.GJ;(repeat' split)<;>omega
     ·unfold Sp.CC;(repeat' split)<;>omega
     ·unfold Sp.yz;(repeat' split)<;>omega)
   |(exfalso;omega)
end Go.Proofs.YthehihjcpiadgaaGreat
