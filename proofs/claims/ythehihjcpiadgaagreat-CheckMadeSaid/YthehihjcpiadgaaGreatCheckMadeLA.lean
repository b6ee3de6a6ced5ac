import Derived.Test.YthehihjcpiadgaaGreatCheckMadeB2
set_option maxRecDepth 100000
set_option maxHeartbeats 0
set_option linter.all false
open Go.Proofs.Tryz
namespace Go.Proofs.YthehihjcpiadgaaGreat
open Go.RowKit Go.Proofs.Wz.PrintWords Go.Proofs.Wz.bM
theorem vw(op:Int)(w:World)(hn:Sp.fB op=false):Calls prog 153 #[.int .i64 op] w (mY (Sp.fB op) (Sp.fR op) (Sp.gH op) w):=by
 have h:=hn;rw[Sp.fB,Bool.or_eq_false_iff]at h;have c0: ∀w,Calls prog 193 #[.int .i64 op] w (fun e w'=>e= .returned (.bool false)/\w=w'):=fun w=>by have:=xD op w;rwa[h.1]at this
 have c2: ∀w,Calls prog 194 #[.int .i64 op] w (fun e w'=>e= .returned (.bool false)/\w=w'):=fun w=>by have:=rN op w;rwa[h.2]at this
 have HN:=hd hn;have H0:=hd c0;have H2:=hd c2;clear c0 c2 h hn
 go_enter func153,ntmps153
 go_wp2_with (first|(go_at_call 193;refine(H0.o _).mono ?_;rintro e w'⟨rfl,rfl⟩)|(go_at_call 194;refine(H2.o _).mono ?_;rintro e w'⟨rfl,rfl⟩))
 refine bodyPost_ret (v:=_) (by simp[results,results153,go_sem]<;>rfl) rfl ?_;refine Et (by repeat (first|exact ay _ _|refine af ?_ _)) ?_;simp[Sp.fR,Sp.gH,HN.o]
theorem EJ(op:Int)(w:World):Calls prog 153 #[.int .i64 op] w (mY (Sp.fB op) (Sp.fR op) (Sp.gH op) w):=by
 cases hn:Sp.fB op with
 |false=>rw[<-hn];exact vw op w hn
 |true=>
  rw[<-hn];cases ht:Sp.pW op with
  |true=>exact vq op w ht _ rfl
  |false=>exact tT op w ht _ rfl hn
end Go.Proofs.YthehihjcpiadgaaGreat
