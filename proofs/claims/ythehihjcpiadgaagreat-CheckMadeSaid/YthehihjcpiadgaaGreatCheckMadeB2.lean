import Derived.Deep.Light
import Derived.Test.YthehihjcpiadgaaGreatCheckMadeB1
set_option maxRecDepth 100000
set_option maxHeartbeats 0
set_option linter.all false
open Go.Proofs.Tryz
namespace Go.Proofs.YthehihjcpiadgaaGreat
open Go.RowKit Go.Proofs.Wz.PrintWords Go.Proofs.Wz.bM
theorem iQ{W w1:World}(hb:Below W.heap.size W w1):(∀b o,b<W.heap.size->w1.cell? ⟨b,o,none⟩=W.cell? ⟨b,o,none⟩)/\(∀b o,b<W.heap.size->w1.frozen? ⟨b,o,none⟩=W.frozen? ⟨b,o,none⟩):=
 ⟨fun b o h=>hb.cell (p:=⟨b,o,none⟩) h,fun b o h=>hb.frozen (p:=⟨b,o,none⟩) h⟩
theorem bO{w:World}{base b:Nat}{v:Value}{xs:List Int}(h:cO w base v xs)(hb:b<=base):cO w b v xs:=Kd.eH h hb
theorem vq(op:Int)(w:World)(ht:Sp.pW op=true)(bi:Bool)(MH:Sp.isInt op=bi):Calls prog 153 #[.int .i64 op] w (mY (Sp.fB op) (Sp.fR op) (Sp.gH op) w):=by
 have hn:=Sp.MC op ht;have c0: ∀w,Calls prog 193 #[.int .i64 op] w (fun e w'=>e= .returned (.bool bi)/\w=w'):=fun w=>by rw[<-MH];exact xD op w
 have c1: ∀w,Calls prog 197 #[.int .i64 op] w (mY true (Sp.fR op) (Sp.gH op) w):=fun w=>by
  have:=Bw op w
  rwa[ht,show Sp.yA op=Sp.fR op by simp[Sp.yA,ht],show Sp.yB op=Sp.gH op by simp[Sp.yB,ht]]at this
 have c2:bi=false-> ∀w,Calls prog 194 #[.int .i64 op] w (fun e w'=>e= .returned (.bool true)/\w=w'):=fun h w=>by
  have:=rN op w
  rwa[show Sp.mV op=true by rw[Sp.fB,MH,h]at hn;simpa using hn]at this
 rw[hn];have H0:=hd c0;have H1:=hd c1;clear c0 c1 hn ht MH;generalize Sp.fR op=P at *;generalize Sp.gH op=R at *;cases bi
 all_goals
  first|have H2:=hd (c2 rfl)|have H2:Hid True:=hd trivial
  clear c2
  go_enter func153,ntmps153
  go_wp2_with (first|(go_at_call 193;refine(H0.o _).mono ?_;rintro e w'⟨rfl,rfl⟩)|(go_at_call 194;refine(H2.o _).mono ?_;rintro e w'⟨rfl,rfl⟩))
  refine(H1.o _).mono ?_;rintro e w1⟨v1,v2,rfl,h1,h2,hb⟩;obtain⟨A1,k1,rfl⟩:=Kd.ai h1;obtain⟨A2,k2,rfl⟩:=Kd.ai h2;obtain⟨hc,hf⟩:=iQ hb;have hz:w.heap.size<w1.heap.size:=by have:=hb.size;simp at this;omega
  have hz1: ¬w.heap.size=w1.heap.size:=by omega
  have hz2: ¬w1.heap.size=w.heap.size:=by omega
  have f0:w1.cell? ⟨w.heap.size,0,none⟩=some (.slice none 0 0):=(hc _ _ (by simp)).trans (by simp[go_sem]);have f1:w1.cell? ⟨w.heap.size,1,none⟩=some (.slice none 0 0):=(hc _ _ (by simp)).trans (by simp[go_sem]);have f2:w1.frozen? ⟨w.heap.size,0,none⟩=false:=(hf _ _ (by simp)).trans (by simp[go_sem]);have f3:w1.frozen? ⟨w.heap.size,1,none⟩=false:=(hf _ _ (by simp)).trans (by simp[go_sem]);clear hc hf;have G1:=hd (bO (b:=w.heap.size+1) h1 (by simp));have G2:=hd (bO (b:=w.heap.size+1) h2 (by simp));have GB:=hd hb;clear h1 h2 hb
  go_wp2_with fail
  refine bodyPost_ret (v:=_) (by simp[results,results153,go_sem,hz,hz1,hz2,f0,f1]<;>rfl) rfl ?_;exact⟨_,_,rfl,bO (base:=w.heap.size+1) (by repeat (first|exact G1.o|apply Kd.aZ|apply Kd.bU|(refine dY ?_ ?_ _;rotate_left;· (show _<_;simp)))) (by omega),bO (base:=w.heap.size+1) (by repeat (first|exact G2.o|apply Kd.aZ|apply Kd.bU|(refine dY ?_ ?_ _;rotate_left;· (show _<_;simp)))) (by omega),(by repeat (first|exact ay _ _|refine az ?_ GB.o|refine af ?_ _|apply aq|(refine aK ?_ ?_;rotate_left;· (first|omega|(simp;done)|(simp;omega)))))⟩
theorem rO{op c a r:Int}{P R:List Int}(hn:Sp.fB op=true)(hc:Sp.GJ op=c)(ha:Sp.CC op=a)(hr:Sp.yz op=r)(hP:(if c=1 then [a]else [a,a])=P)(hR: [r]=R):(true,P,R)=(Sp.fB op,Sp.fR op,Sp.gH op):=by
 subst hc ha hr hP hR;simp[Sp.fR,Sp.gH,hn]
theorem Bx{w W:World}{g1 g2:Nat}(P R:List Int){v1 v2:Value}(e1:v1= .slice (some ⟨g1,0,none⟩) P.length P.length)(e2:v2= .slice (some ⟨g2,0,none⟩) R.length R.length)(h1:W.heap[g1]? =some (.cells (encs (Value.int .i64) P).toArray 3 (0,0)))(h2:W.heap[g2]? =some (.cells (encs (Value.int .i64) R).toArray 3 (0,0)))
 (l1:P.length<=1000000) (l2:R.length<=1000000) (b1:w.heap.size<=g1) (b2:w.heap.size<=g2) (hb:Below w.heap.size w W) {op:Int} (hx:(true,P,R)=(Sp.fB op,Sp.fR op,Sp.gH op)):
 mY (Sp.fB op) (Sp.fR op) (Sp.gH op) w (.returned (.tuple #[.agg #[v1,v2],.bool true])) W:=by
 subst e1 e2;exact Bv P R h1 h2 l1 l2 b1 b2 hb hx
theorem tT(op:Int)(w:World)(ht:Sp.pW op=false)(bi:Bool)(MH:Sp.isInt op=bi)(hn:Sp.fB op=true):Calls prog 153 #[.int .i64 op] w (mY (Sp.fB op) (Sp.fR op) (Sp.gH op) w):=by
 have c0: ∀w,Calls prog 193 #[.int .i64 op] w (fun e w'=>e= .returned (.bool bi)/\w=w'):=fun w=>by rw[<-MH];exact xD op w
 have c1: ∀w,Calls prog 197 #[.int .i64 op] w (mY false [] [] w):=fun w=>by
  have:=Bw op w
  rwa[ht,show Sp.yA op= [] by simp[Sp.yA,ht],show Sp.yB op= [] by simp[Sp.yB,ht]]at this
 have c2:bi=false-> ∀w,Calls prog 194 #[.int .i64 op] w (fun e w'=>e= .returned (.bool true)/\w=w'):=fun h w=>by
  have:=rN op w
  rwa[show Sp.mV op=true by rw[Sp.fB,MH,h]at hn;simpa using hn]at this
 have hq:(69<=op/\op<=90)\/(97<=op/\op<=138)\/(153<=op/\op<=166):=by
  simp only[Sp.fB,Sp.isInt,Sp.mV,Sp.pW,Bool.or_eq_true,decide_eq_true_eq,iy]at hn ht;omega
 have HN:=hd hn;have H0:=hd c0;have H1:=hd c1;clear c0 c1 hn ht MH;have HQ:=hd hq;clear hq;cases bi
 all_goals
  first|have H2:=hd (c2 rfl)|have H2:Hid True:=hd trivial
  clear c2
  go_enter func153,ntmps153
  go_wp2_with (first|(go_at_call 193;refine(H0.o _).mono ?_;rintro e w'⟨rfl,rfl⟩)|(go_at_call 194;refine(H2.o _).mono ?_;rintro e w'⟨rfl,rfl⟩))
  refine(H1.o _).mono ?_;rintro e w1⟨v1,v2,rfl,h1,h2,hb⟩;obtain⟨A1,k1,rfl⟩:=Kd.ai h1;obtain⟨A2,k2,rfl⟩:=Kd.ai h2;obtain⟨hc,hf⟩:=iQ hb;have hz:w.heap.size<w1.heap.size:=by have:=hb.size;simp at this;omega
  have hz1: ¬w.heap.size=w1.heap.size:=by omega
  have hz2: ¬w1.heap.size=w.heap.size:=by omega
  have hy1: ¬w.heap.size=w1.heap.size+1:=by omega
  have hx1:w.heap.size<w1.heap.size+1:=by omega
  have hy2: ¬w.heap.size=w1.heap.size+1+1:=by omega
  have hx2:w.heap.size<w1.heap.size+1+1:=by omega
  have hy3: ¬w.heap.size=w1.heap.size+1+1+1:=by omega
  have hx3:w.heap.size<w1.heap.size+1+1+1:=by omega
  have hy4: ¬w.heap.size=w1.heap.size+1+1+1+1:=by omega
  have MI:w.heap.size<w1.heap.size+1+1+1+1:=by omega
  have f0:w1.cell? ⟨w.heap.size,0,none⟩=some (.slice none 0 0):=(hc _ _ (by simp)).trans (by simp[go_sem]);have f1:w1.cell? ⟨w.heap.size,1,none⟩=some (.slice none 0 0):=(hc _ _ (by simp)).trans (by simp[go_sem]);have f2:w1.frozen? ⟨w.heap.size,0,none⟩=false:=(hf _ _ (by simp)).trans (by simp[go_sem]);have f3:w1.frozen? ⟨w.heap.size,1,none⟩=false:=(hf _ _ (by simp)).trans (by simp[go_sem]);clear hc hf;have GB:=hd hb;clear h1 h2 hb
  go_wp2_with (first|(go_at_call 198;refine(IX _ _ _).mono ?_;rintro e w'⟨rfl,rfl⟩)|(go_at_call 199;refine(QJ _ _ _).mono ?_;rintro e w'⟨rfl,rfl⟩))
  all_goals
   refine bodyPost_ret (v:=_) (by simp[results,results153,go_sem,hz,hz1,hz2,hy1,hy2,hy3,hy4,hx1,hx2,hx3,MI,f0,f1]<;>rfl) rfl ?_;have hq:=HQ.o;have hn:=HN.o;simp only[beq_iff_eq,beq_eq_false_iff_ne,ne_eq,decide_eq_true_eq,iy,Bool.or_eq_true,Bool.and_eq_true,Int.not_lt,Int.not_le]at *
   first
   |(refine Bx [_] [_] rfl rfl (by repeat (first|(refine alloc_at ?_;(simp;done))|(refine(iP ?_).trans ?_;· (simp<;>omega)))) (by repeat (first|(refine alloc_at ?_;(simp;done))|(refine(iP ?_).trans ?_;· (simp<;>omega)))) (by simp) (by simp) (by omega) (by omega) (by repeat (first|exact ay _ _|refine az ?_ GB.o|refine af ?_ _|apply aq|(refine aK ?_ ?_;rotate_left;· (first|omega|(simp;done)|(simp;omega))))) ?_
     refine rO hn (c:=1) ?_ ?_ ?_ rfl rfl
     ·unfold Sp.GJ;(repeat' split)<;>omega
     ·unfold Sp.CC;(repeat' split)<;>omega
     ·unfold Sp.yz;(repeat' split)<;>omega)
   |(refine Bx [_,_] [_] rfl rfl (by repeat (first|(refine alloc_at ?_;(simp;done))|(refine(iP ?_).trans ?_;· (simp<;>omega)))) (by repeat (first|(refine alloc_at ?_;(simp;done))|(refine(iP ?_).trans ?_;· (simp<;>omega)))) (by simp) (by simp) (by omega) (by omega) (by repeat (first|exact ay _ _|refine az ?_ GB.o|refine af ?_ _|apply aq|(refine aK ?_ ?_;rotate_left;· (first|omega|(simp;done)|(simp;omega))))) ?_
     refine rO hn (c:=2) ?_ ?_ ?_ rfl rfl
     ·unfold Sp.GJ;(repeat' split)<;>omega
     ·unfold Sp.CC;(repeat' split)<;>omega
     ·unfold Sp.yz;(repeat' split)<;>omega)
   |(exfalso;omega)
def Xc(xs ys:List Int)(w:World)(e:Ending)(w':World):Prop:= ∃v1 v2,e= .returned (.agg #[v1,v2])/\cO w' w.heap.size v1 xs/\cO w' w.heap.size v2 ys/\Below w.heap.size w w'
theorem sM(A B:Option Addr)(c d:Nat)(xs ys:List Int)(w:World)(hx:bf w A xs)(hy:bf w B ys)(lx:xs.length*8<=140737488355328)(ly:ys.length*8<=140737488355328):
 Calls prog 141 #[.agg #[.slice A xs.length c,.slice B ys.length d]] w (Xc xs ys w):=by
 have HX:=hd hx;have HY:=hd hy;have LX:=hd lx;have LY:=hd ly;clear hx hy lx ly
 go_enter func141,ntmps141
 go_wp2
 go_region_held3 (fun w'=>w'.cell? ⟨w.heap.size,0,none⟩=some (.slice A xs.length c)/\w'.cell? ⟨w.heap.size,1,none⟩=some (.slice B ys.length d))
  (first|(go_keep;done)|(go_split_ands;exact⟨(eA _ _ (by first|(simp;done)|(simp;omega)|omega)).trans (by assumption),(eA _ _ (by first|(simp;done)|(simp;omega)|omega)).trans (by assumption)⟩))
  (first
  |((go_at_call 51);(with_reducible refine(tS A c xs _ ?hc LX.o).mono ?_);(case hc=>(with_reducible repeat (first|exact HX.o|apply Kd.aS|apply Kd.eL|apply Kd.jc|exact Kd.bJ (by repeat (first|exact HX.o|apply Kd.aS|apply Kd.eL|apply Kd.jc)) bw.o)));rintro e w1⟨v1,rfl,h1,hb1⟩;obtain⟨P1,k1,rfl⟩:=Kd.ai h1;obtain⟨eA,kW⟩:=iQ hb1;have z1:w.heap.size+1<w1.heap.size:=(by have:=hb1.size;first|omega|(simp at this;omega));have f10:w1.cell? ⟨w.heap.size+1,0,none⟩=some (.slice none 0 0):=(eA _ _ (by first|(simp;done)|(simp;omega)|omega)).trans (by first|(simp[go_sem];done)|assumption);have f11:w1.cell? ⟨w.heap.size+1,1,none⟩=some (.slice none 0 0):=(eA _ _ (by first|(simp;done)|(simp;omega)|omega)).trans (by first|(simp[go_sem];done)|assumption);have f12:w1.frozen? ⟨w.heap.size+1,0,none⟩=false:=(kW _ _ (by first|(simp;done)|(simp;omega)|omega)).trans (by first|(simp[go_sem];done)|assumption);have f13:w1.frozen? ⟨w.heap.size+1,1,none⟩=false:=(kW _ _ (by first|(simp;done)|(simp;omega)|omega)).trans (by first|(simp[go_sem];done)|assumption);have R1:=hd h1;have bE:=hd hb1;clear h1 hb1)
  |((go_at_call 51);(with_reducible refine(tS B d ys _ ?hc LY.o).mono ?_);(case hc=>(with_reducible repeat (first|exact HY.o|apply Kd.aS|apply Kd.eL|apply Kd.jc|exact Kd.bJ (by repeat (first|exact HY.o|apply Kd.aS|apply Kd.eL|apply Kd.jc)) bE.o)));rintro e w2⟨v2,rfl,h2,hb2⟩;obtain⟨P2,k2,rfl⟩:=Kd.ai h2;obtain⟨eA,kW⟩:=iQ hb2;have z2:w.heap.size+1<w2.heap.size:=(by have:=hb2.size;first|omega|(simp at this;omega));have f20:w2.cell? ⟨w.heap.size+1,0,none⟩=some (.slice none 0 0):=(eA _ _ (by first|(simp;done)|(simp;omega)|omega)).trans (by first|(simp[go_sem];done)|assumption);have f21:w2.cell? ⟨w.heap.size+1,1,none⟩=some (.slice none 0 0):=(eA _ _ (by first|(simp;done)|(simp;omega)|omega)).trans (by first|(simp[go_sem];done)|assumption);have f22:w2.frozen? ⟨w.heap.size+1,0,none⟩=false:=(kW _ _ (by first|(simp;done)|(simp;omega)|omega)).trans (by first|(simp[go_sem];done)|assumption);have f23:w2.frozen? ⟨w.heap.size+1,1,none⟩=false:=(kW _ _ (by first|(simp;done)|(simp;omega)|omega)).trans (by first|(simp[go_sem];done)|assumption);have R2:=hd h2;have bw:=hd hb2;clear h2 hb2))
 go_wp2
 refine bodyPost_ret (v:=_) (by simp[results,results141,go_sem,f20,f21]<;>rfl) rfl ?_;have q1:cO w1 (w.heap.size+2) (.slice P1 xs.length k1) xs:=bO R1.o (by simp);have q2:cO w2 (w.heap.size+2) (.slice P2 ys.length k2) ys:=bO R2.o (by have:=bE.o.size;simp at this;omega);have q3:cO w2 (w.heap.size+2) (.slice P1 xs.length k1) xs:=Kd.cM q1 bw.o
 exact⟨_,_,rfl,bO (base:=w.heap.size+2) (dY (dY q3 (by show _<_;simp) _) (by show _<_;simp) _) (by omega),bO (base:=w.heap.size+2) (dY (dY q2 (by show _<_;simp) _) (by show _<_;simp) _) (by omega),
  aK (aK (az (az (aN (af (af (ay _ _) _) _)) bE.o) bw.o) (by omega)) (by omega)⟩
def Sp.aQ(M:bL)(a:Int):Option ig:=
 if a= -1 then some ⟨[],[]⟩else if a= -2 then some ⟨[],[127]⟩else if a= -3 then some ⟨[],[126]⟩else if a= -4 then some ⟨[],[124]⟩
 else if 0<=a/\a<M.f0.length then some (cD M.f0 a)else none
def lX(o:Option ig)(w:World)(e:Ending)(w':World):Prop:=
 ∃v1 v2,e= .returned (.tuple #[.agg #[v1,v2],.bool o.isSome])/\cO w' w.heap.size v1 (o.getD cv).f0/\cO w' w.heap.size v2 (o.getD cv).f1/\Below w.heap.size w w'
def fh(l:List ig):Prop:= ∀i:Int,(cD l i).f0.length*8<=140737488355328/\(cD l i).f1.length*8<=140737488355328
theorem wW(M:bL)(cs:List Value)(a:Int)(w:World)(hM:bZ.K w M cs)(hs:fh M.f0)(h0:0<=a)(h1:a<M.f0.length):Calls prog 89 #[.agg cs.toArray,.int .i64 a] w (lX (some (cD M.f0 a)) w):=by
 obtain⟨A0,c0,A1,c1,A2,c2,A3,c3,A4,c4,A5,c5,A6,c6,A7,c7,rfl,l0,g0,_⟩:=aD hM;have hcell:=qF (Kd.aS (Kd.aS g0 (.cells #[.slice A0 M.f0.length c0,.slice A1 M.f1.length c1,.slice A2 M.f2.length c2,.slice A3 M.f3.length c3,.slice A4 M.f4.length c4,.slice A5 M.f5.length c5,.slice A6 M.f6.length c6,.slice A7 M.f7.length c7] 37)) (.cells #[.slice none 0 0,.slice none 0 0] 40)) a h0 h1;obtain⟨ad,B0,d0,B1,d1,rfl,e0,e1,m0,q0,m1,q1⟩:=hcell;obtain⟨s0,s1⟩:=hs a;have hwi:Sp.within a 0 ((M.f0.length:Int)-1)=true:=by simp[Sp.within];omega
 have Hw:=hd (fun w=>aT a (M.f0.length:Int) w);rw[hwi]at Hw;have n1: ¬a= -1:=by omega
 have n2: ¬a= -2:=by omega
 have n3: ¬a= -3:=by omega
 have n4: ¬a= -4:=by omega
 have Ho:=hd (sM B0 B1 d0 d1 _ _ _ q0 q1 s0 s1);clear q0 q1 s0 s1 hs m0 m1 g0 hM hwi
 go_enter func89,ntmps89
 go_wp2_with (first|(go_at_call 137;refine(Hw.o _).mono ?_;rintro e w'⟨rfl,rfl⟩))
 refine Ho.o.mono ?_;rintro e w1⟨v1,v2,rfl,r1,r2,hb⟩;obtain⟨P1,k1,rfl⟩:=Kd.ai r1;obtain⟨P2,k2,rfl⟩:=Kd.ai r2;obtain⟨hc,hf⟩:=iQ hb;have hz:w.heap.size+1<w1.heap.size:=by have:=hb.size;simp at this;omega
 have f0:w1.cell? ⟨w.heap.size+1,0,none⟩=some (.slice none 0 0):=(hc _ _ (by simp)).trans (by simp[go_sem]);have f1:w1.cell? ⟨w.heap.size+1,1,none⟩=some (.slice none 0 0):=(hc _ _ (by simp)).trans (by simp[go_sem]);have f2:w1.frozen? ⟨w.heap.size+1,0,none⟩=false:=(hf _ _ (by simp)).trans (by simp[go_sem]);have f3:w1.frozen? ⟨w.heap.size+1,1,none⟩=false:=(hf _ _ (by simp)).trans (by simp[go_sem]);have q1:=hd (bO (b:=w.heap.size+2) r1 (by simp));have q2:=hd (bO (b:=w.heap.size+2) r2 (by simp));have HB:=hd hb;clear hc hf r1 r2 hb
 go_wp2_with fail
 refine bodyPost_ret (v:=_) (by simp[results,results89,go_sem,f0,f1]<;>rfl) rfl ?_
 exact⟨_,_,rfl,bO (base:=w.heap.size+2) (dY (dY q1.o (by show _<_;simp) _) (by show _<_;simp) _) (by omega),bO (base:=w.heap.size+2) (dY (dY q2.o (by show _<_;simp) _) (by show _<_;simp) _) (by omega),
  aK (aK (az (af (af (ay _ _) _) _) HB.o) (by omega)) (by omega)⟩
theorem qK{w W:World}{o:Option ig}(ho:o=none)(hb:Below w.heap.size w W):lX o w (.returned (.tuple #[.agg #[.slice none 0 0,.slice none 0 0],.bool false])) W:=by
 subst ho;exact⟨_,_,rfl,Kd.fS _ _ _ _ _,Kd.fS _ _ _ _ _,hb⟩
theorem QK{w W:World}{o:Option ig}(ho:o=some ⟨[],[]⟩)(hb:Below w.heap.size w W):lX o w (.returned (.tuple #[.agg #[.slice none 0 0,.slice none 0 0],.bool true])) W:=by
 subst ho;exact⟨_,_,rfl,Kd.fS _ _ _ _ _,Kd.fS _ _ _ _ _,hb⟩
theorem QL{w W:World}{o:Option ig}{g:Nat}{t:Int}(ho:o=some ⟨[],[t]⟩)(h2:W.heap[g]? =some (.cells #[.int .i64 t] 3 (0,0)))(b2:w.heap.size<=g)(hb:Below w.heap.size w W):lX o w (.returned (.tuple #[.agg #[.slice none 0 0,.slice (some ⟨g,0,none⟩) 1 1],.bool true])) W:=by
 subst ho;exact⟨_,_,rfl,Kd.fS _ _ _ _ _,dW (xs:= [t]) h2 b2 (fN (by simp)),hb⟩
theorem vr(M:bL)(cs:List Value)(a:Int)(w:World)(hM:bZ.K w M cs)(h: ¬(0<=a/\a<M.f0.length)):Calls prog 89 #[.agg cs.toArray,.int .i64 a] w (lX (Sp.aQ M a) w):=by
 obtain⟨A0,c0,A1,c1,A2,c2,A3,c3,A4,c4,A5,c5,A6,c6,A7,c7,rfl,l0,g0,_⟩:=aD hM;have hwi:Sp.within a 0 ((M.f0.length:Int)-1)=false:=by simp[Sp.within];omega
 have Hw:=hd (fun w=>aT a (M.f0.length:Int) w);rw[hwi]at Hw;have H:=hd h;clear g0 hM hwi h
 go_enter func89,ntmps89
 go_wp2_with (first|(go_at_call 137;refine(Hw.o _).mono ?_;rintro e w'⟨rfl,rfl⟩))
 all_goals
  refine bodyPost_ret (v:=_) (by simp[results,results89,go_sem]<;>rfl) rfl ?_;have h:=H.o
  first
  |(refine qK ?_ (by repeat (first|exact ay _ _|refine af ?_ _));simp_all [Sp.aQ];done)
  |(refine QK ?_ (by repeat (first|exact ay _ _|refine af ?_ _));simp_all [Sp.aQ];done)
  |(refine QL ?_ (by repeat (first|(refine alloc_at ?_;(simp;done))|(refine(iP ?_).trans ?_;· (simp<;>omega)))) (by omega) (by repeat (first|exact ay _ _|refine af ?_ _));simp_all [Sp.aQ];done)
  |(refine qK ?_ (by repeat (first|exact ay _ _|refine af ?_ _));unfold Sp.aQ;simp only[beq_iff_eq,beq_eq_false_iff_ne,ne_eq,decide_eq_true_eq,iy,Bool.or_eq_true,Bool.and_eq_true,Int.not_lt,Int.not_le]at *;rw[if_neg (by omega),if_neg (by omega),if_neg (by omega),if_neg (by omega),if_neg (by omega)])
theorem oV(M:bL)(cs:List Value)(a:Int)(w:World)(hM:bZ.K w M cs)(hs:fh M.f0):Calls prog 89 #[.agg cs.toArray,.int .i64 a] w (lX (Sp.aQ M a) w):=by
 by_cases h:0<=a/\a<M.f0.length
 ·have e:Sp.aQ M a=some (cD M.f0 a):=by
   unfold Sp.aQ;rw[if_neg (by omega),if_neg (by omega),if_neg (by omega),if_neg (by omega),if_pos h]
  rw[e];exact wW M cs a w hM hs h.1 h.2
 ·exact vr M cs a w hM h
def Sp.fnType(M:bL)(f:Int):Option Int:=
 if 0<=f/\f<M.f1.length then some (ij M.f1 f).f2 else if 0<=f-M.f1.length/\f-M.f1.length<M.f2.length then some (aF M.f2 (f-M.f1.length)).f0 else none
def Sp.Ap(M:bL)(t:Int):Option ig:=if 0<=t/\t<M.f0.length then some (cD M.f0 t)else none
def Sp.aM(M:bL)(f:Int):Option ig:=(Sp.fnType M f).bind (Sp.Ap M)
theorem tU(M:bL)(cs:List Value)(f:Int)(w:World)(hM:bZ.K w M cs)(n1:M.f1.length<=1000000)(n2:M.f2.length<=1000000)(hs:fh M.f0)(h0:0<=f)(h1:f<M.f1.length)(t:Int)(ht:(ij M.f1 f).f2=t)(t0:0<=t)(t1:t<M.f0.length):Calls prog 84 #[.agg cs.toArray,.int .i64 f] w (lX (some (cD M.f0 t)) w):=by
 obtain⟨A0,c0,A1,c1,A2,c2,A3,c3,A4,c4,A5,c5,A6,c6,A7,c7,rfl,l0,g0,l1,g1,l2,g2,-⟩:=aD hM;obtain⟨bd,rfl,e2,e3,e4⟩:=tR (Kd.aS (Kd.aS g1 (.cells #[.slice A0 M.f0.length c0,.slice A1 M.f1.length c1,.slice A2 M.f2.length c2,.slice A3 M.f3.length c3,.slice A4 M.f4.length c4,.slice A5 M.f5.length c5,.slice A6 M.f6.length c6,.slice A7 M.f7.length c7] 37)) (.cells #[.slice none 0 0,.slice none 0 0] 40)) f h0 h1;have w1:Sp.within f 0 ((M.f1.length:Int)-1)=true:=by simp[Sp.within];omega
 rw[ht]at e4;obtain⟨ad,B0,d0,B1,d1,rfl,e0,e1,m0,q0,m1,q1⟩:=qF (Kd.aS (Kd.aS g0 (.cells #[.slice A0 M.f0.length c0,.slice (some bd) M.f1.length c1,.slice A2 M.f2.length c2,.slice A3 M.f3.length c3,.slice A4 M.f4.length c4,.slice A5 M.f5.length c5,.slice A6 M.f6.length c6,.slice A7 M.f7.length c7] 37)) (.cells #[.slice none 0 0,.slice none 0 0] 40)) t t0 t1;obtain⟨s0,s1⟩:=hs t;have w3:Sp.within t 0 ((M.f0.length:Int)-1)=true:=by simp[Sp.within];omega
 have Ho:=hd (sM B0 B1 d0 d1 _ _ _ q0 q1 s0 s1);clear q0 q1 s0 s1 hs m0 m1 g0 g1 g2 hM ht
 go_enter func84,ntmps84
 go_wp2_with (first|(go_at_call 137;refine(aT _ _ _).mono ?_;rintro e w'⟨rfl,rfl⟩))
 refine Ho.o.mono ?_;rintro e w1⟨v1,v2,rfl,r1,r2,hb⟩;obtain⟨P1,k1,rfl⟩:=Kd.ai r1;obtain⟨P2,k2,rfl⟩:=Kd.ai r2;obtain⟨hc,hf⟩:=iQ hb;have hz:w.heap.size+1<w1.heap.size:=by have:=hb.size;simp at this;omega
 have f0:w1.cell? ⟨w.heap.size+1,0,none⟩=some (.slice none 0 0):=(hc _ _ (by simp)).trans (by simp[go_sem]);have f1:w1.cell? ⟨w.heap.size+1,1,none⟩=some (.slice none 0 0):=(hc _ _ (by simp)).trans (by simp[go_sem]);have f2:w1.frozen? ⟨w.heap.size+1,0,none⟩=false:=(hf _ _ (by simp)).trans (by simp[go_sem]);have f3:w1.frozen? ⟨w.heap.size+1,1,none⟩=false:=(hf _ _ (by simp)).trans (by simp[go_sem]);have q1:=hd (bO (b:=w.heap.size+2) r1 (by simp));have q2:=hd (bO (b:=w.heap.size+2) r2 (by simp));have HB:=hd hb;clear hc hf r1 r2 hb
 go_wp2_with fail
 refine bodyPost_ret (v:=_) (by simp[results,results84,go_sem,f0,f1]<;>rfl) rfl ?_
 exact⟨_,_,rfl,bO (base:=w.heap.size+2) (dY (dY q1.o (by show _<_;simp) _) (by show _<_;simp) _) (by omega),bO (base:=w.heap.size+2) (dY (dY q2.o (by show _<_;simp) _) (by show _<_;simp) _) (by omega),
  aK (aK (az (af (af (ay _ _) _) _) HB.o) (by omega)) (by omega)⟩
theorem sN(M:bL)(cs:List Value)(f:Int)(w:World)(hM:bZ.K w M cs)(n1:M.f1.length<=1000000)(n2:M.f2.length<=1000000)(h0:0<=f)(h1:f<M.f1.length)(t:Int)(ht:(ij M.f1 f).f2=t)(t0: ¬(0<=t/\t<M.f0.length)):Calls prog 84 #[.agg cs.toArray,.int .i64 f] w (lX none w):=by
 obtain⟨A0,c0,A1,c1,A2,c2,A3,c3,A4,c4,A5,c5,A6,c6,A7,c7,rfl,l0,g0,l1,g1,l2,g2,-⟩:=aD hM;obtain⟨bd,rfl,e2,e3,e4⟩:=tR (Kd.aS (Kd.aS g1 (.cells #[.slice A0 M.f0.length c0,.slice A1 M.f1.length c1,.slice A2 M.f2.length c2,.slice A3 M.f3.length c3,.slice A4 M.f4.length c4,.slice A5 M.f5.length c5,.slice A6 M.f6.length c6,.slice A7 M.f7.length c7] 37)) (.cells #[.slice none 0 0,.slice none 0 0] 40)) f h0 h1;have w1:Sp.within f 0 ((M.f1.length:Int)-1)=true:=by simp[Sp.within];omega
 rw[ht]at e4;have w3:Sp.within t 0 ((M.f0.length:Int)-1)=false:=by simp[Sp.within];omega
 clear g0 g1 g2 hM ht t0
 go_enter func84,ntmps84
 go_wp2_with (first|(go_at_call 137;refine(aT _ _ _).mono ?_;rintro e w'⟨rfl,rfl⟩))
 refine bodyPost_ret (v:=_) (by simp[results,results84,go_sem]<;>rfl) rfl ?_;exact qK rfl (by repeat (first|exact ay _ _|refine af ?_ _))
theorem tV(M:bL)(cs:List Value)(j:Int)(w:World)(hM:bZ.K w M cs)(n1:M.f1.length<=1000000)(n2:M.f2.length<=1000000)(hs:fh M.f0)(h0:0<=j)(h1:j<M.f2.length)(t:Int)(ht:(aF M.f2 j).f0=t)(t0:0<=t)(t1:t<M.f0.length):Calls prog 84 #[.agg cs.toArray,.int .i64 ((M.f1.length:Int)+j)] w (lX (some (cD M.f0 t)) w):=by
 obtain⟨A0,c0,A1,c1,A2,c2,A3,c3,A4,c4,A5,c5,A6,c6,A7,c7,rfl,l0,g0,l1,g1,l2,g2,-⟩:=aD hM;obtain⟨bd,B2,d2,B3,d3,rfl,e2,e3,e4,-⟩:=ku (Kd.aS (Kd.aS g2 (.cells #[.slice A0 M.f0.length c0,.slice A1 M.f1.length c1,.slice A2 M.f2.length c2,.slice A3 M.f3.length c3,.slice A4 M.f4.length c4,.slice A5 M.f5.length c5,.slice A6 M.f6.length c6,.slice A7 M.f7.length c7] 37)) (.cells #[.slice none 0 0,.slice none 0 0] 40)) j h0 h1;have w1:Sp.within ((M.f1.length:Int)+j) 0 ((M.f1.length:Int)-1)=false:=by simp[Sp.within];omega
 have w2:Sp.within j 0 ((M.f2.length:Int)-1)=true:=by simp[Sp.within];omega
 have hj:(M.f1.length:Int)+j-(M.f1.length:Int)=j:=by omega
 rw[ht]at e2;obtain⟨ad,B0,d0,B1,d1,rfl,e0,e1,m0,q0,m1,q1⟩:=qF (Kd.aS (Kd.aS g0 (.cells #[.slice A0 M.f0.length c0,.slice A1 M.f1.length c1,.slice (some bd) M.f2.length c2,.slice A3 M.f3.length c3,.slice A4 M.f4.length c4,.slice A5 M.f5.length c5,.slice A6 M.f6.length c6,.slice A7 M.f7.length c7] 37)) (.cells #[.slice none 0 0,.slice none 0 0] 40)) t t0 t1;obtain⟨s0,s1⟩:=hs t;have w3:Sp.within t 0 ((M.f0.length:Int)-1)=true:=by simp[Sp.within];omega
 have Ho:=hd (sM B0 B1 d0 d1 _ _ _ q0 q1 s0 s1);clear q0 q1 s0 s1 hs m0 m1 g0 g1 g2 hM ht
 go_enter func84,ntmps84
 go_wp2_with (first|(go_at_call 137;refine(aT _ _ _).mono ?_;rintro e w'⟨rfl,rfl⟩))
 refine Ho.o.mono ?_;rintro e w1⟨v1,v2,rfl,r1,r2,hb⟩;obtain⟨P1,k1,rfl⟩:=Kd.ai r1;obtain⟨P2,k2,rfl⟩:=Kd.ai r2;obtain⟨hc,hf⟩:=iQ hb;have hz:w.heap.size+1<w1.heap.size:=by have:=hb.size;simp at this;omega
 have f0:w1.cell? ⟨w.heap.size+1,0,none⟩=some (.slice none 0 0):=(hc _ _ (by simp)).trans (by simp[go_sem]);have f1:w1.cell? ⟨w.heap.size+1,1,none⟩=some (.slice none 0 0):=(hc _ _ (by simp)).trans (by simp[go_sem]);have f2:w1.frozen? ⟨w.heap.size+1,0,none⟩=false:=(hf _ _ (by simp)).trans (by simp[go_sem]);have f3:w1.frozen? ⟨w.heap.size+1,1,none⟩=false:=(hf _ _ (by simp)).trans (by simp[go_sem]);have q1:=hd (bO (b:=w.heap.size+2) r1 (by simp));have q2:=hd (bO (b:=w.heap.size+2) r2 (by simp));have HB:=hd hb;clear hc hf r1 r2 hb
 go_wp2_with fail
 refine bodyPost_ret (v:=_) (by simp[results,results84,go_sem,f0,f1]<;>rfl) rfl ?_
 exact⟨_,_,rfl,bO (base:=w.heap.size+2) (dY (dY q1.o (by show _<_;simp) _) (by show _<_;simp) _) (by omega),bO (base:=w.heap.size+2) (dY (dY q2.o (by show _<_;simp) _) (by show _<_;simp) _) (by omega),
  aK (aK (az (af (af (ay _ _) _) _) HB.o) (by omega)) (by omega)⟩
theorem sO(M:bL)(cs:List Value)(j:Int)(w:World)(hM:bZ.K w M cs)(n1:M.f1.length<=1000000)(n2:M.f2.length<=1000000)(h0:0<=j)(h1:j<M.f2.length)(t:Int)(ht:(aF M.f2 j).f0=t)(t0: ¬(0<=t/\t<M.f0.length)):Calls prog 84 #[.agg cs.toArray,.int .i64 ((M.f1.length:Int)+j)] w (lX none w):=by
 obtain⟨A0,c0,A1,c1,A2,c2,A3,c3,A4,c4,A5,c5,A6,c6,A7,c7,rfl,l0,g0,l1,g1,l2,g2,-⟩:=aD hM;obtain⟨bd,B2,d2,B3,d3,rfl,e2,e3,e4,-⟩:=ku (Kd.aS (Kd.aS g2 (.cells #[.slice A0 M.f0.length c0,.slice A1 M.f1.length c1,.slice A2 M.f2.length c2,.slice A3 M.f3.length c3,.slice A4 M.f4.length c4,.slice A5 M.f5.length c5,.slice A6 M.f6.length c6,.slice A7 M.f7.length c7] 37)) (.cells #[.slice none 0 0,.slice none 0 0] 40)) j h0 h1;have w1:Sp.within ((M.f1.length:Int)+j) 0 ((M.f1.length:Int)-1)=false:=by simp[Sp.within];omega
 have w2:Sp.within j 0 ((M.f2.length:Int)-1)=true:=by simp[Sp.within];omega
 have hj:(M.f1.length:Int)+j-(M.f1.length:Int)=j:=by omega
 rw[ht]at e2;have w3:Sp.within t 0 ((M.f0.length:Int)-1)=false:=by simp[Sp.within];omega
 clear g0 g1 g2 hM ht t0
 go_enter func84,ntmps84
 go_wp2_with (first|(go_at_call 137;refine(aT _ _ _).mono ?_;rintro e w'⟨rfl,rfl⟩))
 refine bodyPost_ret (v:=_) (by simp[results,results84,go_sem]<;>rfl) rfl ?_;exact qK rfl (by repeat (first|exact ay _ _|refine af ?_ _))
theorem wX(M:bL)(cs:List Value)(f:Int)(w:World)(hM:bZ.K w M cs)(n1:M.f1.length<=1000000)(n2:M.f2.length<=1000000)(f0: -2147483648<=f)(f9:f<=2147483647)(h0: ¬(0<=f/\f<M.f1.length))(h1: ¬(0<=f-(M.f1.length:Int)/\f-(M.f1.length:Int)<M.f2.length)):Calls prog 84 #[.agg cs.toArray,.int .i64 f] w (lX none w):=by
 obtain⟨A0,c0,A1,c1,A2,c2,A3,c3,A4,c4,A5,c5,A6,c6,A7,c7,rfl,l0,g0,l1,g1,l2,g2,-⟩:=aD hM;have w1:Sp.within f 0 ((M.f1.length:Int)-1)=false:=by simp[Sp.within];omega
 have w2:Sp.within (f-(M.f1.length:Int)) 0 ((M.f2.length:Int)-1)=false:=by simp[Sp.within];omega
 clear g0 g1 g2 hM h0 h1
 go_enter func84,ntmps84
 go_wp2_with (first|(go_at_call 137;refine(aT _ _ _).mono ?_;rintro e w'⟨rfl,rfl⟩))
 refine bodyPost_ret (v:=_) (by simp[results,results84,go_sem]<;>rfl) rfl ?_;exact qK rfl (by repeat (first|exact ay _ _|refine af ?_ _))
theorem iF(M:bL)(cs:List Value)(f:Int)(w:World)(hM:bZ.K w M cs)(n1:M.f1.length<=1000000)(n2:M.f2.length<=1000000)(hs:fh M.f0)(f0: -2147483648<=f)(f9:f<=2147483647):Calls prog 84 #[.agg cs.toArray,.int .i64 f] w (lX (Sp.aM M f) w):=by
 unfold Sp.aM Sp.fnType Sp.Ap;by_cases h:0<=f/\f<M.f1.length
 ·rw[if_pos h]
  simp only[Option.bind_some];by_cases ht:0<=(ij M.f1 f).f2/\(ij M.f1 f).f2<M.f0.length
  ·rw[if_pos ht];exact tU M cs f w hM n1 n2 hs h.1 h.2 _ rfl ht.1 ht.2
  ·rw[if_neg ht];exact sN M cs f w hM n1 n2 h.1 h.2 _ rfl ht
 ·rw[if_neg h]
  by_cases h2:0<=f-(M.f1.length:Int)/\f-(M.f1.length:Int)<M.f2.length
  ·rw[if_pos h2]
   simp only[Option.bind_some];by_cases ht:0<=(aF M.f2 (f-M.f1.length)).f0/\(aF M.f2 (f-M.f1.length)).f0<M.f0.length
   ·rw[if_pos ht];have:=tV M cs (f-M.f1.length) w hM n1 n2 hs h2.1 h2.2 _ rfl ht.1 ht.2;rwa[show(M.f1.length:Int)+(f-M.f1.length)=f by omega]at this
   ·rw[if_neg ht];have:=sO M cs (f-M.f1.length) w hM n1 n2 h2.1 h2.2 _ rfl ht;rwa[show(M.f1.length:Int)+(f-M.f1.length)=f by omega]at this
  ·rw[if_neg h2];exact wX M cs f w hM n1 n2 f0 f9 h h2
end Go.Proofs.YthehihjcpiadgaaGreat
namespace Go.Proofs.YthehihjcpiadgaaGreat
open Go.RowKit Go.Proofs.Wz.PrintWords
namespace Sp
structure St where
 T:List Int
 F:List xB
 bad:Bool
def St.top(s:St):xB:=bB s.F ((s.F.length:Int)-1)
def St.push(s:St)(l:List Int):St:=⟨s.T++l,s.F,s.bad⟩
def St.any(s:St):Int×St:=
 if(s.T.length:Int)<=s.top.f2 then(0,⟨s.T,s.F,s.bad|| !s.top.f3⟩)else(rd s.T ((s.T.length:Int)-1),⟨s.T.take (s.T.length-1),s.F,s.bad⟩)
def St.Aq(s:St)(want:Int):St:=if s.any.1≠0/\s.any.1≠want then⟨s.any.2.T,s.any.2.F,true⟩else s.any.2
def St.pop(s:St)(l:List Int):St:=l.foldr (fun want s=>s.Aq want) s
def St.die(s:St):St:=⟨s.T.take s.top.f2.toNat,s.F.set (s.F.length-1) ⟨s.top.f0,s.top.f1,s.top.f2,true⟩,s.bad⟩
def St.at(s:St)(k:Int):xB:=bB s.F ((s.F.length:Int)-1-k)
def label(f:xB):List Int:=if f.f0=3 then f.f1.f0 else f.f1.f1
def cq(s:St):Prop:=0<s.F.length/\s.F.length<=100000/\s.T.length<=1000000/\(∀i:Int,0<=i->i<s.F.length->0<=(bB s.F i).f2/\(bB s.F i).f2<=s.T.length)/\ ∀i j:Int,0<=i->i<=j->j<s.F.length->(bB s.F i).f2<=(bB s.F j).f2
end Sp
end Go.Proofs.YthehihjcpiadgaaGreat
namespace Go.Proofs.YthehihjcpiadgaaGreat
open Go.RowKit Go.Proofs.Wz.PrintWords Go.Proofs.Wz.bM
theorem Bz(op:Int)(w:World):Calls prog 143 #[.int .i64 op] w fun e w'=>e= .returned (.bool (Sp.known op))/\w=w':=by
 go_enter func143,ntmps143
 go_wp2_with (first|(go_at_call 88;refine(jh _ _).mono ?_;rintro e w'⟨rfl,rfl⟩)|(go_at_call 152;refine(ot _ _).mono ?_;rintro e w'⟨rfl,rfl⟩)|(go_at_call 193;refine(xD _ _).mono ?_;rintro e w'⟨rfl,rfl⟩)|(go_at_call 194;refine(rN _ _).mono ?_;rintro e w'⟨rfl,rfl⟩)|(go_at_call 87;refine(gK _ _).mono ?_;rintro e w'⟨rfl,rfl⟩))
 all_goals
  go_ret;refine⟨congrArg (fun b=>Ending.returned (.bool b)) ?_,rfl⟩
  go_light
  first|rfl|(simp[Sp.known,Sp.fB,Sp.opens,Sp.within, *];done)|(simp[Sp.known,Sp.fB,Sp.opens,Sp.within, *];omega)|(simp_all [Sp.known,Sp.fB,Sp.opens,Sp.within];done)|(simp only[beq_iff_eq,beq_eq_false_iff_ne,ne_eq,decide_eq_true_eq,iy,Bool.or_eq_true,Bool.and_eq_true,Int.not_lt,Int.not_le]at *;rw[Bool.eq_iff_iff];simp[Sp.known,Sp.fB,Sp.opens,Sp.within, *];omega)
theorem MJ(op:Int)(w:World):Calls prog 86 #[.int .i64 op] w fun e w'=>e= .returned (.bool (Sp.known op&&(decide (op=18)||decide (192<=op))))/\w=w':=by
 go_enter func86,ntmps86
 go_wp2_with (first|(go_at_call 143;refine(Bz _ _).mono ?_;rintro e w'⟨rfl,rfl⟩))
 all_goals
  go_ret;refine⟨congrArg (fun b=>Ending.returned (.bool b)) ?_,rfl⟩
  go_light
  first|rfl|(simp_all;done)|(rw[Bool.eq_iff_iff];simp_all;done)|(rw[Bool.eq_iff_iff];simp_all;omega)
def aB(b:Bool)(w:World)(e:Ending)(w':World):Prop:=e= .returned (.bool b)/\Below w.heap.size w w'
theorem MK(op:Int)(w:World):Calls prog 86 #[.int .i64 op] w fun e w'=>e= .returned (.bool (Sp.MB op))/\w=w':=by
 rw[<-Sp.GK];exact MJ op w
def Sp.wG(op a:Int):Bool:=Sp.MB op||(Sp.opens op&&decide (0<=a))
theorem oW(op a b n:Int)(v:Value)(hv: ∃A l c,v= .slice A l c)(w:World):Calls prog 45 #[.agg #[.int .i64 op,.int .i64 a,.int .i64 b,.int .u64 n,v]] w (aB (Sp.wG op a) w):=by
 obtain⟨A,l,c,rfl⟩:=hv
 go_enter func45,ntmps45
 go_wp2_with (first|(go_at_call 86;refine(MK _ _).mono ?_;rintro e w'⟨rfl,rfl⟩)|(go_at_call 87;refine(gK _ _).mono ?_;rintro e w'⟨rfl,rfl⟩))
 all_goals
  go_ret
  go_light
  refine⟨congrArg (fun b=>Ending.returned (.bool b)) ?_,af (ay _ _) _⟩
  first|rfl|(simp[Sp.wG, *];done)|(rw[Bool.eq_iff_iff];simp_all [Sp.wG];done)|(rw[Bool.eq_iff_iff];simp_all [Sp.wG];omega)
theorem Eu(op:Int)(w:World):Calls prog 159 #[.int .i64 op] w fun e w'=>e= .returned (.tuple #[.int .i64 (Sp.mW op),.int .i64 (Sp.jX op),.bool (Sp.tN op)])/\w=w':=by
 go_enter func159,ntmps159
 go_wp2
 all_goals
  go_ret3
  go_light
  refine⟨congrArg (fun b:Int×Int×Bool=>Ending.returned (Value.tuple #[.int .i64 b.1,.int .i64 b.2.1,.bool b.2.2])) (a₁:=(_,_,_)) (a₂:=(Sp.mW op,Sp.jX op,Sp.tN op)) ?_,rfl⟩
  first|(simp_all [Sp.mW,Sp.tM,Sp.jX,Sp.tN];done)|(simp_all [Sp.mW,Sp.tM,Sp.jX,Sp.tN];omega)
def xE(w0 w w':World)(v:Value)(xs:List Int):Prop:=(∃A c,v= .slice A xs.length c/\bf w0 A xs)\/cO w' w.heap.size v xs
def kX(o:Option ig)(w0 w:World)(e:Ending)(w':World):Prop:=
 ∃v1 v2,e= .returned (.tuple #[.agg #[v1,v2],.bool o.isSome])/\xE w0 w w' v1 (o.getD cv).f0/\xE w0 w w' v2 (o.getD cv).f1/\Below w.heap.size w w'
theorem GR{w wx:World}{a:Addr}{v:Value}(hb:Below w.heap.size w wx)(h:w.cell? a=some v):wx.cell? a=some v:=
 (hb.cell (aR w _ h)).trans h
def Ar(w w1:World):Prop:= ∀a v,w.cell? a=some v->w1.cell? a=some v
theorem Ar.then{w w1 w2:World}(h:Ar w w1)(hb:Below w1.heap.size w1 w2):Ar w w2:=fun a v e=>GR hb (h a v e)
theorem wH{α:Type}{d:Kd α}{w w1:World}{A:Option Addr}{n:Nat}{xs:List α}(hK: ∀x cs,d.K w x cs->d.K w1 x cs)(h:d.C w A n xs)(hb:Ar w w1):d.C w1 A n xs:=
 ⟨h.1,h.2.1,fun hn=>by
  obtain⟨ad,e,hc⟩:=h.2.2 hn;refine⟨ad,e,fun j p hj=>?_⟩;obtain⟨c,hs,hr,hcell⟩:=hc j p hj;exact⟨c,hs,hK _ _ hr,fun i u hu=>hb _ _ (hcell i u hu)⟩⟩
theorem qM{w w1:World}{A:Option Addr}{n:Nat}{xs:List Int}(h:(Kd.int .i64).C w A n xs)(hb:Ar w w1):(Kd.int .i64).C w1 A n xs:=wH (w:=w) (w1:=w1) (fun _ _ h=>h) h hb
theorem SS{w w1:World}{x:iX}{cs:List Value}(h:j8.K w x cs):j8.K w1 x cs:=h
theorem ML{w w1:World}{x:dV}{cs:List Value}(h:eE.K w x cs):eE.K w1 x cs:=h
theorem T7{w w1:World}(hb:Ar w w1){x:aW}{cs:List Value}(h:bW.K w x cs):bW.K w1 x cs:=by
 obtain⟨A4,c4,rfl,l4,g4⟩:=mX h;exact⟨_,_,rfl,rfl,⟨_,_,rfl,rfl,⟨_,_,rfl,rfl,⟨_,_,rfl,rfl,⟨A4,c4,rfl,l4,qM g4 hb⟩⟩⟩⟩⟩
theorem SU{w w1:World}(hb:Ar w w1){x:iB}{cs:List Value}(h:fL.K w x cs):fL.K w1 x cs:=by
 obtain⟨A1,c1,A2,c2,rfl,l1,g1,l2,g2⟩:=jY h;exact⟨_,_,rfl,rfl,⟨_,_,rfl,⟨A1,c1,rfl,l1,qM g1 hb⟩,⟨A2,c2,rfl,l2,wH (fun _ _=>T7 hb) g2 hb⟩⟩⟩
theorem lM{w0 w W:World}{o:Option ig}(ho:o=none)(hb:Below w.heap.size w W):kX o w0 w (.returned (.tuple #[.agg #[.slice none 0 0,.slice none 0 0],.bool false])) W:=by
 subst ho;exact⟨_,_,rfl,.inr (Kd.fS _ _ _ _ _),.inr (Kd.fS _ _ _ _ _),hb⟩
theorem wY(M:bL)(cs:List Value)(f:Int)(w0 w:World)(hM:bZ.K w0 M cs)(hb0:Ar w0 w)(n1:M.f1.length<=1000000)(n2:M.f2.length<=1000000)(h0:0<=f)(h1:f<M.f1.length)(t:Int)(ht:(ij M.f1 f).f2=t)(t0:0<=t)(t1:t<M.f0.length):Calls prog 32 #[.agg cs.toArray,.int .i64 f] w (kX (some (cD M.f0 t)) w0 w):=by
 obtain⟨A0,c0,A1,c1,A2,c2,A3,c3,A4,c4,A5,c5,A6,c6,A7,c7,rfl,l0,g0,l1,g1,l2,g2,-⟩:=aD hM;obtain⟨bd,rfl,e2,e3,e4⟩:=tR (wH (fun _ _=>SS) g1 (hb0.then (af (af (ay _ _) (.cells #[.slice A0 M.f0.length c0,.slice A1 M.f1.length c1,.slice A2 M.f2.length c2,.slice A3 M.f3.length c3,.slice A4 M.f4.length c4,.slice A5 M.f5.length c5,.slice A6 M.f6.length c6,.slice A7 M.f7.length c7] 37)) (.cells #[.slice none 0 0,.slice none 0 0] 40)))) f h0 h1;rw[ht]at e4;have hq:=qF g0 t t0 t1;obtain⟨ad,B0,d0,B1,d1,rfl,e0,e1,m0,q0,m1,q1⟩:=hq;have e0':((w.alloc (.cells #[.slice (some ad) M.f0.length c0,.slice (some bd) M.f1.length c1,.slice A2 M.f2.length c2,.slice A3 M.f3.length c3,.slice A4 M.f4.length c4,.slice A5 M.f5.length c5,.slice A6 M.f6.length c6,.slice A7 M.f7.length c7] 37)).alloc (.cells #[.slice none 0 0,.slice none 0 0] 40)).cell? (ad.add (t.toNat*2))=some (.slice B0 (cD M.f0 t).f0.length d0):=(hb0.then (af (af (ay _ _) _) _)) _ _ e0;have e1':((w.alloc (.cells #[.slice (some ad) M.f0.length c0,.slice (some bd) M.f1.length c1,.slice A2 M.f2.length c2,.slice A3 M.f3.length c3,.slice A4 M.f4.length c4,.slice A5 M.f5.length c5,.slice A6 M.f6.length c6,.slice A7 M.f7.length c7] 37)).alloc (.cells #[.slice none 0 0,.slice none 0 0] 40)).cell? ⟨(ad.add (t.toNat*2)).block,(ad.add (t.toNat*2)).off+1,none⟩=some (.slice B1 (cD M.f0 t).f1.length d1):=(hb0.then (af (af (ay _ _) _) _)) _ _ e1;have Q0:=hd q0;have Q1:=hd q1;clear q0 q1 m0 m1 g0 g1 g2 hM ht e0 e1
 go_enter func32,ntmps32
 go_wp2
 refine bodyPost_ret (v:=_) (by simp[results,results32,go_sem]<;>rfl) rfl ?_;exact⟨_,_,rfl,.inl ⟨_,_,rfl,Q0.o⟩,.inl ⟨_,_,rfl,Q1.o⟩,(by repeat (first|exact ay _ _|refine af ?_ _))⟩
theorem vt(M:bL)(cs:List Value)(f:Int)(w0 w:World)(hM:bZ.K w0 M cs)(hb0:Ar w0 w)(n1:M.f1.length<=1000000)(n2:M.f2.length<=1000000)(h0:0<=f)(h1:f<M.f1.length)(t:Int)(ht:(ij M.f1 f).f2=t)(t0: ¬(0<=t/\t<M.f0.length)):Calls prog 32 #[.agg cs.toArray,.int .i64 f] w (kX none w0 w):=by
 obtain⟨A0,c0,A1,c1,A2,c2,A3,c3,A4,c4,A5,c5,A6,c6,A7,c7,rfl,l0,g0,l1,g1,l2,g2,-⟩:=aD hM;obtain⟨bd,rfl,e2,e3,e4⟩:=tR (wH (fun _ _=>SS) g1 (hb0.then (af (af (ay _ _) (.cells #[.slice A0 M.f0.length c0,.slice A1 M.f1.length c1,.slice A2 M.f2.length c2,.slice A3 M.f3.length c3,.slice A4 M.f4.length c4,.slice A5 M.f5.length c5,.slice A6 M.f6.length c6,.slice A7 M.f7.length c7] 37)) (.cells #[.slice none 0 0,.slice none 0 0] 40)))) f h0 h1;rw[ht]at e4;clear g0 g1 g2 hM ht;by_cases tn:t<0
 ·clear t0
  go_enter func32,ntmps32
  go_wp2
  refine bodyPost_ret (v:=_) (by simp[results,results32,go_sem]<;>rfl) rfl ?_;exact lM rfl (by repeat (first|exact ay _ _|refine af ?_ _))
 ·have tm:(M.f0.length:Int)<=t:=by omega
  clear t0
  go_enter func32,ntmps32
  go_wp2
  refine bodyPost_ret (v:=_) (by simp[results,results32,go_sem]<;>rfl) rfl ?_;exact lM rfl (by repeat (first|exact ay _ _|refine af ?_ _))
theorem wZ(M:bL)(cs:List Value)(j:Int)(w0 w:World)(hM:bZ.K w0 M cs)(hb0:Ar w0 w)(n1:M.f1.length<=1000000)(n2:M.f2.length<=1000000)(h0:0<=j)(h1:j<M.f2.length)(t:Int)(ht:(aF M.f2 j).f0=t)(t0:0<=t)(t1:t<M.f0.length):Calls prog 32 #[.agg cs.toArray,.int .i64 ((M.f1.length:Int)+j)] w (kX (some (cD M.f0 t)) w0 w):=by
 obtain⟨A0,c0,A1,c1,A2,c2,A3,c3,A4,c4,A5,c5,A6,c6,A7,c7,rfl,l0,g0,l1,g1,l2,g2,-⟩:=aD hM;obtain⟨bd,B2,d2,B3,d3,rfl,e2,e3,e4,-⟩:=ku (wH (fun _ _=>SU (hb0.then (af (af (ay _ _) (.cells #[.slice A0 M.f0.length c0,.slice A1 M.f1.length c1,.slice A2 M.f2.length c2,.slice A3 M.f3.length c3,.slice A4 M.f4.length c4,.slice A5 M.f5.length c5,.slice A6 M.f6.length c6,.slice A7 M.f7.length c7] 37)) (.cells #[.slice none 0 0,.slice none 0 0] 40)))) g2 (hb0.then (af (af (ay _ _) (.cells #[.slice A0 M.f0.length c0,.slice A1 M.f1.length c1,.slice A2 M.f2.length c2,.slice A3 M.f3.length c3,.slice A4 M.f4.length c4,.slice A5 M.f5.length c5,.slice A6 M.f6.length c6,.slice A7 M.f7.length c7] 37)) (.cells #[.slice none 0 0,.slice none 0 0] 40)))) j h0 h1;have hj:(M.f1.length:Int)+j-(M.f1.length:Int)=j:=by omega
 have k0:(0:Int)<=(M.f1.length:Int)+j:=by omega
 have k1: ¬((M.f1.length:Int)+j<(M.f1.length:Int)):=by omega
 have k2:(M.f1.length:Int)+j<(M.f1.length:Int)+(M.f2.length:Int):=by omega
 rw[ht]at e2;have hq:=qF g0 t t0 t1;obtain⟨ad,B0,d0,B1,d1,rfl,e0,e1,m0,q0,m1,q1⟩:=hq;have e0':((w.alloc (.cells #[.slice (some ad) M.f0.length c0,.slice A1 M.f1.length c1,.slice (some bd) M.f2.length c2,.slice A3 M.f3.length c3,.slice A4 M.f4.length c4,.slice A5 M.f5.length c5,.slice A6 M.f6.length c6,.slice A7 M.f7.length c7] 37)).alloc (.cells #[.slice none 0 0,.slice none 0 0] 40)).cell? (ad.add (t.toNat*2))=some (.slice B0 (cD M.f0 t).f0.length d0):=(hb0.then (af (af (ay _ _) _) _)) _ _ e0;have e1':((w.alloc (.cells #[.slice (some ad) M.f0.length c0,.slice A1 M.f1.length c1,.slice (some bd) M.f2.length c2,.slice A3 M.f3.length c3,.slice A4 M.f4.length c4,.slice A5 M.f5.length c5,.slice A6 M.f6.length c6,.slice A7 M.f7.length c7] 37)).alloc (.cells #[.slice none 0 0,.slice none 0 0] 40)).cell? ⟨(ad.add (t.toNat*2)).block,(ad.add (t.toNat*2)).off+1,none⟩=some (.slice B1 (cD M.f0 t).f1.length d1):=(hb0.then (af (af (ay _ _) _) _)) _ _ e1;have Q0:=hd q0;have Q1:=hd q1;clear q0 q1 m0 m1 g0 g1 g2 hM ht e0 e1
 go_enter func32,ntmps32
 go_wp2
 refine bodyPost_ret (v:=_) (by simp[results,results32,go_sem]<;>rfl) rfl ?_;exact⟨_,_,rfl,.inl ⟨_,_,rfl,Q0.o⟩,.inl ⟨_,_,rfl,Q1.o⟩,(by repeat (first|exact ay _ _|refine af ?_ _))⟩
theorem vu(M:bL)(cs:List Value)(j:Int)(w0 w:World)(hM:bZ.K w0 M cs)(hb0:Ar w0 w)(n1:M.f1.length<=1000000)(n2:M.f2.length<=1000000)(h0:0<=j)(h1:j<M.f2.length)(t:Int)(ht:(aF M.f2 j).f0=t)(t0: ¬(0<=t/\t<M.f0.length)):Calls prog 32 #[.agg cs.toArray,.int .i64 ((M.f1.length:Int)+j)] w (kX none w0 w):=by
 obtain⟨A0,c0,A1,c1,A2,c2,A3,c3,A4,c4,A5,c5,A6,c6,A7,c7,rfl,l0,g0,l1,g1,l2,g2,-⟩:=aD hM;obtain⟨bd,B2,d2,B3,d3,rfl,e2,e3,e4,-⟩:=ku (wH (fun _ _=>SU (hb0.then (af (af (ay _ _) (.cells #[.slice A0 M.f0.length c0,.slice A1 M.f1.length c1,.slice A2 M.f2.length c2,.slice A3 M.f3.length c3,.slice A4 M.f4.length c4,.slice A5 M.f5.length c5,.slice A6 M.f6.length c6,.slice A7 M.f7.length c7] 37)) (.cells #[.slice none 0 0,.slice none 0 0] 40)))) g2 (hb0.then (af (af (ay _ _) (.cells #[.slice A0 M.f0.length c0,.slice A1 M.f1.length c1,.slice A2 M.f2.length c2,.slice A3 M.f3.length c3,.slice A4 M.f4.length c4,.slice A5 M.f5.length c5,.slice A6 M.f6.length c6,.slice A7 M.f7.length c7] 37)) (.cells #[.slice none 0 0,.slice none 0 0] 40)))) j h0 h1;have hj:(M.f1.length:Int)+j-(M.f1.length:Int)=j:=by omega
 have k0:(0:Int)<=(M.f1.length:Int)+j:=by omega
 have k1: ¬((M.f1.length:Int)+j<(M.f1.length:Int)):=by omega
 have k2:(M.f1.length:Int)+j<(M.f1.length:Int)+(M.f2.length:Int):=by omega
 rw[ht]at e2;clear g0 g1 g2 hM ht;by_cases tn:t<0
 ·clear t0
  go_enter func32,ntmps32
  go_wp2
  refine bodyPost_ret (v:=_) (by simp[results,results32,go_sem]<;>rfl) rfl ?_;exact lM rfl (by repeat (first|exact ay _ _|refine af ?_ _))
 ·have tm:(M.f0.length:Int)<=t:=by omega
  clear t0
  go_enter func32,ntmps32
  go_wp2
  refine bodyPost_ret (v:=_) (by simp[results,results32,go_sem]<;>rfl) rfl ?_;exact lM rfl (by repeat (first|exact ay _ _|refine af ?_ _))
theorem Au(M:bL)(cs:List Value)(f:Int)(w0 w:World)(hM:bZ.K w0 M cs)(hb0:Ar w0 w)(n1:M.f1.length<=1000000)(n2:M.f2.length<=1000000)(h0: ¬(0<=f/\f<M.f1.length))(h1: ¬(0<=f-(M.f1.length:Int)/\f-(M.f1.length:Int)<M.f2.length)):Calls prog 32 #[.agg cs.toArray,.int .i64 f] w (kX none w0 w):=by
 obtain⟨A0,c0,A1,c1,A2,c2,A3,c3,A4,c4,A5,c5,A6,c6,A7,c7,rfl,l0,g0,l1,g1,l2,g2,-⟩:=aD hM;clear g0 g1 g2 hM;by_cases fn:f<0
 ·clear h0 h1
  go_enter func32,ntmps32
  go_wp2
  refine bodyPost_ret (v:=_) (by simp[results,results32,go_sem]<;>rfl) rfl ?_;exact lM rfl (by repeat (first|exact ay _ _|refine af ?_ _))
 ·have f1:(M.f1.length:Int)<=f:=by omega
  have f2:(M.f1.length:Int)+(M.f2.length:Int)<=f:=by omega
  clear h0 h1
  go_enter func32,ntmps32
  go_wp2
  refine bodyPost_ret (v:=_) (by simp[results,results32,go_sem]<;>rfl) rfl ?_;exact lM rfl (by repeat (first|exact ay _ _|refine af ?_ _))
theorem tW(M:bL)(cs:List Value)(f:Int)(w0 w:World)(hM:bZ.K w0 M cs)(hb0:Ar w0 w)(n1:M.f1.length<=1000000)(n2:M.f2.length<=1000000):Calls prog 32 #[.agg cs.toArray,.int .i64 f] w (kX (Sp.aM M f) w0 w):=by
 unfold Sp.aM Sp.fnType Sp.Ap;by_cases h:0<=f/\f<M.f1.length
 ·rw[if_pos h]
  simp only[Option.bind_some];by_cases ht:0<=(ij M.f1 f).f2/\(ij M.f1 f).f2<M.f0.length
  ·rw[if_pos ht];exact wY M cs f w0 w hM hb0 n1 n2 h.1 h.2 _ rfl ht.1 ht.2
  ·rw[if_neg ht];exact vt M cs f w0 w hM hb0 n1 n2 h.1 h.2 _ rfl ht
 ·rw[if_neg h]
  by_cases h2:0<=f-(M.f1.length:Int)/\f-(M.f1.length:Int)<M.f2.length
  ·rw[if_pos h2]
   simp only[Option.bind_some];by_cases ht:0<=(aF M.f2 (f-M.f1.length)).f0/\(aF M.f2 (f-M.f1.length)).f0<M.f0.length
   ·rw[if_pos ht];have:=wZ M cs (f-M.f1.length) w0 w hM hb0 n1 n2 h2.1 h2.2 _ rfl ht.1 ht.2;rwa[show(M.f1.length:Int)+(f-M.f1.length)=f by omega]at this
   ·rw[if_neg ht];have:=vu M cs (f-M.f1.length) w0 w hM hb0 n1 n2 h2.1 h2.2 _ rfl ht;rwa[show(M.f1.length:Int)+(f-M.f1.length)=f by omega]at this
  ·rw[if_neg h2];exact Au M cs f w0 w hM hb0 n1 n2 h h2
theorem QM{w0 w W:World}{o:Option ig}(ho:o=some ⟨[],[]⟩)(hb:Below w.heap.size w W):kX o w0 w (.returned (.tuple #[.agg #[.slice none 0 0,.slice none 0 0],.bool true])) W:=by
 subst ho;exact⟨_,_,rfl,.inr (Kd.fS _ _ _ _ _),.inr (Kd.fS _ _ _ _ _),hb⟩
theorem QN{w0 w W:World}{o:Option ig}{g:Nat}{t:Int}(ho:o=some ⟨[],[t]⟩)(h2:W.heap[g]? =some (.cells #[.int .i64 t] 3 (0,0)))(b2:w.heap.size<=g)(hb:Below w.heap.size w W):kX o w0 w (.returned (.tuple #[.agg #[.slice none 0 0,.slice (some ⟨g,0,none⟩) 1 1],.bool true])) W:=by
 subst ho;exact⟨_,_,rfl,.inr (Kd.fS _ _ _ _ _),.inr (dW (xs:= [t]) h2 b2 (fN (by simp))),hb⟩
theorem Av(M:bL)(cs:List Value)(a:Int)(w0 w:World)(hM:bZ.K w0 M cs)(hb0:Ar w0 w)(h0:0<=a)(h1:a<M.f0.length):Calls prog 160 #[.agg cs.toArray,.int .i64 a] w (kX (some (cD M.f0 a)) w0 w):=by
 obtain⟨A0,c0,A1,c1,A2,c2,A3,c3,A4,c4,A5,c5,A6,c6,A7,c7,rfl,l0,g0,-⟩:=aD hM;have hq:=qF g0 a h0 h1;obtain⟨ad,B0,d0,B1,d1,rfl,e0,e1,m0,q0,m1,q1⟩:=hq;have e0':((w.alloc (.cells #[.slice (some ad) M.f0.length c0,.slice A1 M.f1.length c1,.slice A2 M.f2.length c2,.slice A3 M.f3.length c3,.slice A4 M.f4.length c4,.slice A5 M.f5.length c5,.slice A6 M.f6.length c6,.slice A7 M.f7.length c7] 37)).alloc (.cells #[.slice none 0 0,.slice none 0 0] 40)).cell? (ad.add (a.toNat*2))=some (.slice B0 (cD M.f0 a).f0.length d0):=(hb0.then (af (af (ay _ _) _) _)) _ _ e0;have e1':((w.alloc (.cells #[.slice (some ad) M.f0.length c0,.slice A1 M.f1.length c1,.slice A2 M.f2.length c2,.slice A3 M.f3.length c3,.slice A4 M.f4.length c4,.slice A5 M.f5.length c5,.slice A6 M.f6.length c6,.slice A7 M.f7.length c7] 37)).alloc (.cells #[.slice none 0 0,.slice none 0 0] 40)).cell? ⟨(ad.add (a.toNat*2)).block,(ad.add (a.toNat*2)).off+1,none⟩=some (.slice B1 (cD M.f0 a).f1.length d1):=(hb0.then (af (af (ay _ _) _) _)) _ _ e1;have Q0:=hd q0;have Q1:=hd q1;have n1: ¬a= -1:=by omega
 have n2: ¬a= -2:=by omega
 have n3: ¬a= -3:=by omega
 have n4: ¬a= -4:=by omega
 clear q0 q1 m0 m1 g0 hM e0 e1
 go_enter func160,ntmps160
 go_wp2
 refine bodyPost_ret (v:=_) (by simp[results,results160,go_sem]<;>rfl) rfl ?_;exact⟨_,_,rfl,.inl ⟨_,_,rfl,Q0.o⟩,.inl ⟨_,_,rfl,Q1.o⟩,(by repeat (first|exact ay _ _|refine af ?_ _))⟩
theorem yI(M:bL)(cs:List Value)(a:Int)(w0 w:World)(hM:bZ.K w0 M cs)(hb0:Ar w0 w)(h: ¬(0<=a/\a<M.f0.length)):Calls prog 160 #[.agg cs.toArray,.int .i64 a] w (kX (Sp.aQ M a) w0 w):=by
 obtain⟨A0,c0,A1,c1,A2,c2,A3,c3,A4,c4,A5,c5,A6,c6,A7,c7,rfl,l0,g0,-⟩:=aD hM;have H:=hd h;clear g0 hM h
 go_enter func160,ntmps160
 go_wp2
 all_goals
  have h:=H.o
  first
  |(exfalso;simp only[beq_iff_eq,beq_eq_false_iff_ne,ne_eq,decide_eq_true_eq,iy,Bool.or_eq_true,Bool.and_eq_true,Int.not_lt,Int.not_le]at *;omega)
  |(refine bodyPost_ret (v:=_) (by simp[results,results160,go_sem]<;>rfl) rfl ?_
    first
    |(refine lM ?_ (by repeat (first|exact ay _ _|refine af ?_ _));simp_all [Sp.aQ];done)
    |(refine QM ?_ (by repeat (first|exact ay _ _|refine af ?_ _));simp_all [Sp.aQ];done)
    |(refine QN ?_ (by repeat (first|(refine alloc_at ?_;(simp;done))|(refine(iP ?_).trans ?_;· (simp<;>omega)))) (by omega) (by repeat (first|exact ay _ _|refine af ?_ _));simp_all [Sp.aQ];done)
    |(refine lM ?_ (by repeat (first|exact ay _ _|refine af ?_ _));unfold Sp.aQ;simp only[beq_iff_eq,beq_eq_false_iff_ne,ne_eq,decide_eq_true_eq,iy,Bool.or_eq_true,Bool.and_eq_true,Int.not_lt,Int.not_le]at *;rw[if_neg (by omega),if_neg (by omega),if_neg (by omega),if_neg (by omega),if_neg (by omega)]))
theorem GS(M:bL)(cs:List Value)(a:Int)(w0 w:World)(hM:bZ.K w0 M cs)(hb0:Ar w0 w):Calls prog 160 #[.agg cs.toArray,.int .i64 a] w (kX (Sp.aQ M a) w0 w):=by
 by_cases h:0<=a/\a<M.f0.length
 ·have e:Sp.aQ M a=some (cD M.f0 a):=by
   unfold Sp.aQ;rw[if_neg (by omega),if_neg (by omega),if_neg (by omega),if_neg (by omega),if_pos h]
  rw[e];exact Av M cs a w0 w hM hb0 h.1 h.2
 ·exact yI M cs a w0 w hM hb0 h
end Go.Proofs.YthehihjcpiadgaaGreat
