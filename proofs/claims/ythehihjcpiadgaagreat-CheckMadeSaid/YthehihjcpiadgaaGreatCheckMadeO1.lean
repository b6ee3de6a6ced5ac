import Derived.Lib.SlBytesConst
import Derived.Deep.Slices
import Derived.ChangeArms
import Derived.Test.YthehihjcpiadgaaGreatCheckMadeM1
set_option maxRecDepth 100000
set_option maxHeartbeats 0
set_option linter.all false
open Go.Proofs.Tryz
namespace Go.Proofs.YthehihjcpiadgaaGreat
open Go.RowKit Go.Proofs.Wz.PrintWords Go.Proofs.Wz.bM
theorem rY(n k:Int)(h1:1<=k)(h2:k<=4294967296)(w:World):Calls prog 59 #[.int .i64 n,.int .i64 k] w (fun e w'=>(∃r:Nat,(r:Int)<k/\e= .returned (.int .i64 (r:Int)))/\w'=w):=by
 have w1:wrap64 (k-1)=k-1:=by unfold wrap64;omega
 have H1:=hd h1;have H2:=hd h2;clear h1 h2
 go_enter func59,ntmps59
 go_wp2_with fail
 refine(nO n (k-1) (by have:=H1.o;omega) (by have:=H2.o;omega) w).mono ?_;rintro e w'⟨⟨r,r0,r1,rfl⟩,rfl⟩
 go_wp2_with fail
 go_ret;exact⟨⟨r.toNat,by have:=H1.o;omega,by rw[show((r.toNat:Nat):Int)=r by omega];rfl⟩,rfl⟩
theorem wk:Kd.Heap bW:=Kd.jE _ (Kd.cF (Kd.eM _) (Kd.cF (Kd.eM _) (Kd.cF (Kd.eM _) (Kd.cF (Kd.eM _) (Kd.fA _ (Kd.eM _))))))
theorem Zj{α:Type}{d:Kd α}{e:Nat}{w:World}{base g:Nat}(hb:w.heap[g]? =some (.cells #[] e (0,0)))(hbase:base<=g):d.R e w base (fun _=>True) (.slice (some ⟨g,0,none⟩) 0 0) []:=
 ⟨fun _ _=>trivial,[],⟨by simp,.inr ⟨g,0,#[],rfl,hbase,hb,aU 0,by simp,by simp,by simp⟩⟩,dU.none _ _⟩
theorem yl{W:World}{base g n cap k:Nat}{Cl:Nat->Prop}{l:List aW}(h:Kd.N bW 25 W base Cl (.slice (some ⟨g,0,none⟩) n cap) l)(hk:k<n): ∃A4 c4,let e:=aO l (k:Int);(∀j u,([.int .i64 e.f0,.int .i64 e.f1,.int .i64 e.f2,.int .u64 e.f3,.slice A4 e.f4.length c4]:List Value)[j]? =some u->W.cell? ⟨g,k*5+j,none⟩=some u)/\(∀j,W.frozen? ⟨g,k*5+j,none⟩=false)/\
 (∀(a b:Int),Kd.FK bW W (fun q=>Cl q/\q≠g) ⟨a,b,e.f2,e.f3,e.f4⟩ [.int .i64 a,.int .i64 b,.int .i64 e.f2,.int .u64 e.f3,.slice A4 e.f4.length c4])/\ ∀(m:Int),Kd.FK bW W (fun q=>Cl q/\q≠g) ⟨e.f0,e.f1,e.f2,m,e.f4⟩ [.int .i64 e.f0,.int .i64 e.f1,.int .i64 e.f2,.int .u64 m,.slice A4 e.f4.length c4]:=by
 obtain⟨c,lJ,hK,hcc,hfr⟩:=Kd.GI h Ep (k:Int) (by omega) (by omega);rw[dF]at hcc hfr;obtain⟨A4,c4,rfl,l4,g4⟩:=mX (Kd.jO hK)
 have key: ∀W',(∀q,Cl q/\q≠g->q<W.heap.size->W'.heap[q]? =W.heap[q]?)->(Kd.int .i64).C W' A4 (aO l (k:Int)).f4.length (aO l (k:Int)).f4:=fun W' hW=>by
  obtain⟨A5,c5,e,l5,g5⟩:=mX (hK W' hW);injection e with _ e;injection e with _ e;injection e with _ e;injection e with _ e;injection e with e _;injection e with ea _ ec;subst ea;rw[dF]at g5;exact g5
 rw[dF]at hcc l4;refine⟨A4,c4,hcc,hfr,fun a b W' hW=>?_,fun m W' hW=>?_⟩
 ·exact qE W' ⟨a,b,(aO l (k:Int)).f2,(aO l (k:Int)).f3,(aO l (k:Int)).f4⟩ l4 (key W' hW)
 ·exact qE W' ⟨(aO l (k:Int)).f0,(aO l (k:Int)).f1,(aO l (k:Int)).f2,m,(aO l (k:Int)).f4⟩ l4 (key W' hW)
theorem Cm{A:Option Addr}{c:Nat}{l:List aW}{W:World}{ok:Nat->Prop}(k:Nat)(hk:k<=l.length)(hlc:l.length<=c)(hF:Kd.F bW W ok A l.length l)(j:Int)(hj:j=(k:Int)):
 ∃A2 c2,(∀W',(Instr.slice 26 (.slice A l.length c) (some (.int .i64 j)) none none).run prog W'= .ok (.slice A2 (l.length-k) c2) W')/\Kd.F bW W ok A2 (l.length-k) (l.drop k):=by
 obtain⟨i0,XS,hz⟩:=Option.map_eq_some_iff.1 jm;simp only[Prod.mk.injEq]at hz;subst hj;have h:=Ei (P:=prog) 26 25 .i64 underlying26 XS 5 hz.2.1 A l.length c (k:Int) (Int.natCast_nonneg _) (by omega);rw[dF]at h;have hf:=Kd.SR hF hk hlc;rw[List.length_drop]at hf;exact⟨_,_,h,hf⟩
theorem JQ{A:Option Addr}{n c:Nat}(k:Nat)(hk:k<=n)(hlc:n<=c): ∀W',(Instr.slice 26 (.slice A n c) none (some (.int .i64 (k:Int))) none).run prog W'= .ok (.slice A k c) W':=by
 obtain⟨i0,XS,hz⟩:=Option.map_eq_some_iff.1 jm;have h:=TP (P:=prog) 26 25 .i64 underlying26 XS A n c (k:Int) (Int.natCast_nonneg _) (by omega) hlc;rw[dF]at h;exact h
theorem qa{α:Type}{d:Kd α}{e:Nat}{w:World}{base g:Nat}{Cl:Nat->Prop}(hb:w.heap[g]? =some (.cells #[] e (0,0)))(hbase:base<=g)(hok: ∀k,base<=k->Cl k):Kd.N d e w base Cl (.slice (some ⟨g,0,none⟩) 0 0) []:=
 Kd.R_N (Kd.bQ (Kd.fW (Zj hb hbase)) (fun k hk=>hok k hk.2.1))
def DN(w:World)(ok:Nat->Prop)(n:Nat)(e:Ending)(w':World):Prop:= ∃A' c' l',e= .returned (.slice A' (l':List aW).length c')/\l'.length<=c'/\Kd.F bW w' (fun q=>ok q\/w.heap.size<=q) A' l'.length l'/\l'.length<=n+1/\Below w.heap.size w w'
theorem oH{w X W9 W':World}{g n c m:Nat}{P:Option Addr}{l':List aW}(hb:Below w.heap.size w X)(h9:Below X.heap.size X W9){ok:Nat->Prop}(hN:Kd.N bW 25 W' X.heap.size (fun q=>ok q\/w.heap.size<=q) (.slice P n c) l')(hG:W9.grownBy W' (some g))(hg:X.heap.size<=g)(hl:l'.length<=m+1):DN w ok m (.returned (.slice P n c)) W':=by
 obtain⟨rfl,hc,-⟩:=Kd.eN hN;exact⟨P,c,l',rfl,hc,Kd.J2 hN,hl,az hb (qx h9 (some g) h9.size hG (fun k hk=>by injection hk with hk;omega))⟩
theorem IA{w X W9 W':World}{n c m base:Nat}{P:Option Addr}{l':List aW}(hb:Below w.heap.size w X)(h9:Below X.heap.size X W9){ok:Nat->Prop}(hN:Kd.N bW 25 W' base (fun q=>ok q\/w.heap.size<=q) (.slice P n c) l')(hB:Below W9.heap.size W9 W')(hl:l'.length<=m+1):DN w ok m (.returned (.slice P n c)) W':=by
 obtain⟨rfl,hc,-⟩:=Kd.eN hN;exact⟨P,c,l',rfl,hc,Kd.J2 hN,hl,az hb (az h9 hB)⟩
theorem LK(w:World)(A:Option Addr)(c:Nat)(l:List aW)(ok:Nat->Prop)(hC:Kd.F bW w ok A l.length l)(hlc:l.length<=c)(hn:l.length<=2000000)(t0 t1 t2 t3:Int)(raw:aW)(AR:Option Addr)(cR:Nat)(hr:Kd.FK bW w ok raw [.int .i64 raw.f0,.int .i64 raw.f1,.int .i64 raw.f2,.int .u64 raw.f3,.slice AR raw.f4.length cR]):Calls prog 60 #[.slice A l.length c,.agg #[.int .i64 t0,.int .i64 t1,.int .i64 t2,.int .u64 t3,.int .i64 raw.f0,.int .i64 raw.f1,.int .i64 raw.f2,.int .u64 raw.f3,.slice AR raw.f4.length cR]] w (DN w ok l.length):=by
 have hX:=dh w (.cells #[.int .i64 t0,.int .i64 t1,.int .i64 t2,.int .u64 t3,.int .i64 raw.f0,.int .i64 raw.f1,.int .i64 raw.f2,.int .u64 raw.f3,.slice AR raw.f4.length cR] 99);have hb:=af (ay w.heap.size w) (.cells #[.int .i64 t0,.int .i64 t1,.int .i64 t2,.int .u64 t3,.int .i64 raw.f0,.int .i64 raw.f1,.int .i64 raw.f2,.int .u64 raw.f3,.slice AR raw.f4.length cR] 99)
 go_enter func60,ntmps60
 go_wp2_with fail
 case' inr=>
  have Am:0<l.length:=by omega
  clear h;refine(rY t2 (l.length:Int) (by omega) (by omega) _).mono ?_;rintro e w'⟨⟨k,hk,rfl⟩,rfl⟩;have HK:=hd (show k<l.length by omega);clear hk;generalize (w.alloc (.cells #[.int .i64 t0,.int .i64 t1,.int .i64 t2,.int .u64 t3,.int .i64 raw.f0,.int .i64 raw.f1,.int .i64 raw.f2,.int .u64 raw.f3,.slice AR raw.f4.length cR] 99))=X at hX hb⊢;have HX:=hd hX;have HB:=hd hb;have HC:=hd hC;have HN:=hd (And.intro hlc hn);have HR:=hd hr;have Ou:=hd Am;clear hX hb hC hlc hn hr Am;have gD:=af (ay X.heap.size X) (.cells #[] 25);have HO:Hid (Kd.N bW 25 (X.alloc (.cells #[] 25)) X.heap.size (fun q=>ok q\/w.heap.size<=q) (.slice (some ⟨X.heap.size,0,none⟩) 0 0) []):=hd (qa (alloc_at rfl) (aU _) (fun k hk=> .inr (cG HB.o.size hk)));have HF:=hd (Kd.bS (Kd.rM HC.o) (az HB.o gD));have fK:=hd gD;clear gD;have hne:((l.length:Int)==0)=false:=by(have:=Ou.o;rw[beq_eq_false_iff_ne];omega)
  have sF:=hd (show w.heap.size<=X.heap.size from HB.o.size);have IB:=hd (show∀k,ok k/\k<w.heap.size->(ok k\/w.heap.size<=k)/\some k≠(Value.slice (some ⟨X.heap.size,0,none⟩) 0 0).ownBlock from fun k hk=>⟨.inl hk.1,fun e=>by have:=sF.o;have:=hk.2;simp[Value.ownBlock]at e;omega⟩);have uT:(([]:List aW).length+l.length)*56<=140737488355328:=by have:=HN.o;simp;omega
  have hbz:X.heap.size<=(X.alloc (.cells #[] 25)).heap.size:=by simp
  go_wp2_with (first|(at_builtin;(refine Kd.gj bW (w0:=X) X.heap.size rfl (.tmp 13) (.tmp 14) 26 25 (.agg #[.int .i64 0,.int .i64 0,.int .i64 0,.int .u64 0,.slice none 0 0]) 56 rfl underlying26 jm rfl (dG _) (dG _) (.slice (some ⟨X.heap.size,0,none⟩) 0 0) [] l A l.length c (fun q=>ok q\/w.heap.size<=q) (fun q=>ok q/\q<w.heap.size) rfl rfl HO.o HF.o IB.o (fun q hq=> .inr (cG (cG sF.o hbz) hq)) fK.o hbz uT ?_);intro v9 w9 hR hB hG hat;have hR:Kd.N bW 25 w9 X.heap.size (fun q=>ok q\/w.heap.size<=q) v9 l:=hR;obtain⟨g,k9,e9,Hz,-⟩:=Kd.yy hR Ou.o;subst e9;have xX:=hd Hz;clear Hz;have DO:=(hB.block _ (aj HX.o)).trans HX.o;have y0:=(aa DO 0).trans rfl;have od:=hd hR;have iZ:=hd hB;have tu:=hd DO;clear hR hB hG hat DO uT hbz))
  refine(nO t0 1048576 (by decide) (by decide) w9).mono ?_;rintro e W9⟨⟨r,r0,r1,rfl⟩,rfl⟩;have iK:=hd (And.intro r0 r1);have i0:(0:Int)<=(k:Int):=by omega
  have i1:(k:Int)<(l.length:Int):=by have:=HK.o;omega
  have i2:((k:Int)).toNat=k:=dF k;have y0:W9.cell? ⟨w.heap.size,0,none⟩=some (.int .i64 t0):=(aa tu.o 0).trans rfl;have y1:W9.cell? ⟨w.heap.size,1,none⟩=some (.int .i64 t1):=(aa tu.o 1).trans rfl;have y2:W9.cell? ⟨w.heap.size,2,none⟩=some (.int .i64 t2):=(aa tu.o 2).trans rfl;have y3:W9.cell? ⟨w.heap.size,3,none⟩=some (.int .u64 t3):=(aa tu.o 3).trans rfl;have y4:W9.cell? ⟨w.heap.size,4,none⟩=some (.int .i64 raw.f0):=(aa tu.o 4).trans rfl;have y5:W9.cell? ⟨w.heap.size,5,none⟩=some (.int .i64 raw.f1):=(aa tu.o 5).trans rfl;have y6:W9.cell? ⟨w.heap.size,6,none⟩=some (.int .i64 raw.f2):=(aa tu.o 6).trans rfl;have y7:W9.cell? ⟨w.heap.size,7,none⟩=some (.int .u64 raw.f3):=(aa tu.o 7).trans rfl;have y8:W9.cell? ⟨w.heap.size,8,none⟩=some (.slice AR raw.f4.length cR):=(aa tu.o 8).trans rfl;rcases(show r/4%6=3\/r/4%6=4\/r/4%6=5\/r/4%6=2\/r/4%6=0\/r/4%6=1 by omega)with e|e|e|e|e|e
  ·skip
   obtain⟨A4,c4,ic,PA,ik,im⟩:=yl od.o HK.o;obtain⟨x,hx⟩:=ex (aO l (k:Int));rw[<-hx]at ic ik im;have ce0:W9.cell? ⟨g,k*5,none⟩=some (.int .i64 x.f0):=ic 0 _ rfl;have f0:W9.frozen? ⟨g,k*5,none⟩=false:=PA 0
   go_wp2_with fail
   go_ret;have hs:=Kd.Bq od.o (k:Int) i0 i1 (c:= [.int .i64 x.f0,.int .i64 x.f1,.int .i64 x.f2,.int .u64 x.f3,.slice A4 x.f4.length c4]) (seg:= [.int .i64 raw.f0]) (j:=0) rfl (fun q u hu=>by rw[i2];exact ic q u hu) (show 0+1<=5 by decide) (ik raw.f0 x.f1) (fun q hq=>hq);rw[i2]at hs;exact oH HB.o iZ.o hs.1 hs.2 xX.o (by simp)
  ·skip
   obtain⟨A4,c4,ic,PA,ik,im⟩:=yl od.o HK.o;obtain⟨x,hx⟩:=ex (aO l (k:Int));rw[<-hx]at ic ik im;have ce3:W9.cell? ⟨g,k*5+3,none⟩=some (.int .u64 x.f3):=ic 3 _ rfl;have f3:W9.frozen? ⟨g,k*5+3,none⟩=false:=PA 3
   go_wp2_with fail
   go_ret;have hs:=Kd.Bq od.o (k:Int) i0 i1 (c:= [.int .i64 x.f0,.int .i64 x.f1,.int .i64 x.f2,.int .u64 x.f3,.slice A4 x.f4.length c4]) (seg:= [.int .u64 t3]) (j:=3) rfl (fun q u hu=>by rw[i2];exact ic q u hu) (show 3+1<=5 by decide) (im t3) (fun q hq=>hq);rw[i2]at hs;exact oH HB.o iZ.o hs.1 hs.2 xX.o (by simp)
  ·skip
   obtain⟨A4,c4,ic,PA,ik,im⟩:=yl od.o HK.o;obtain⟨x,hx⟩:=ex (aO l (k:Int));rw[<-hx]at ic ik im;have ce0:W9.cell? ⟨g,k*5,none⟩=some (.int .i64 x.f0):=ic 0 _ rfl;have f0:W9.frozen? ⟨g,k*5,none⟩=false:=PA 0;have Zk:W9.cell? ⟨g,k*5+1,none⟩=some (.int .i64 x.f1):=ic 1 _ rfl;have f1:W9.frozen? ⟨g,k*5+1,none⟩=false:=PA 1;have Zl:W9.cell? ⟨g,k*5+2,none⟩=some (.int .i64 x.f2):=ic 2 _ rfl;have f2:W9.frozen? ⟨g,k*5+2,none⟩=false:=PA 2;have ce3:W9.cell? ⟨g,k*5+3,none⟩=some (.int .u64 x.f3):=ic 3 _ rfl;have f3:W9.frozen? ⟨g,k*5+3,none⟩=false:=PA 3;have ce4:W9.cell? ⟨g,k*5+4,none⟩=some (.slice A4 x.f4.length c4):=ic 4 _ rfl;have f4:W9.frozen? ⟨g,k*5+4,none⟩=false:=PA 4
   go_wp2_with fail
   go_ret;have hs:=Kd.Bq od.o (k:Int) i0 i1 (c:= [.int .i64 x.f0,.int .i64 x.f1,.int .i64 x.f2,.int .u64 x.f3,.slice A4 x.f4.length c4]) (seg:= [.int .i64 raw.f0,.int .i64 raw.f1,.int .i64 raw.f2,.int .u64 raw.f3,.slice AR raw.f4.length cR]) (j:=0) rfl (fun q u hu=>by rw[i2];exact ic q u hu) (show 0+5<=5 by decide) (show Kd.FK bW W9 (fun q=>(ok q\/w.heap.size<=q)/\q≠g) raw [.int .i64 raw.f0,.int .i64 raw.f1,.int .i64 raw.f2,.int .u64 raw.f3,.slice AR raw.f4.length cR]from Kd.jK (Kd.dK (Kd.oo HR.o) (fun q hq bI=>(iZ.o.block q (jv bI sF.o)).trans (HB.o.block q bI))) (fun q hq=>⟨.inl hq.1,fun e=>by have:=xX.o;have:=sF.o;have:=hq.2;omega⟩)) (fun q hq=>hq);rw[i2]at hs;exact oH HB.o iZ.o hs.1 hs.2 xX.o (by simp)
  ·skip
   obtain⟨A4,c4,ic,PA,ik,im⟩:=yl od.o HK.o;obtain⟨x,hx⟩:=ex (aO l (k:Int));rw[<-hx]at ic ik im;have Zk:W9.cell? ⟨g,k*5+1,none⟩=some (.int .i64 x.f1):=ic 1 _ rfl;have f1:W9.frozen? ⟨g,k*5+1,none⟩=false:=PA 1
   go_wp2_with fail
   refine st 16 (fun w'=>w'.cell? ⟨g,k*5+1,none⟩=some (.int .i64 x.f1)/\w'.cell? ⟨w.heap.size,1,none⟩=some (.int .i64 t1)) [15] ⟨Zk,y1⟩ (fun ag=>?_);refine cZ 0 59 1 60 2 61 ?_;refine cZ 3 62 4 63 5 64 ?_;refine tk 6 65 ag ?_;refine pu2 7 66 8 67 ?_;refine tk 9 68 ag ?_;refine cZ 10 69 11 70 12 71 ?_;refine pu2 13 72 14 73 ?_;refine la 15 ?_;refine dn ?_
   go_wp2_with fail
   go_ret;have hs:=fun V=>Kd.Bq (Kd.CA od.o) (k:Int) i0 i1 (c:= [.int .i64 x.f0,.int .i64 x.f1,.int .i64 x.f2,.int .u64 x.f3,.slice A4 x.f4.length c4]) (seg:= [.int .i64 V]) (j:=1) rfl (fun q u hu=>by rw[i2];exact ic q u hu) (show 1+1<=5 by decide) (show Kd.FK bW W9.drew _ _ _ from ik x.f0 V) (fun q hq=>hq)
   rw[i2]at hs;exact oH HB.o (aX iZ.o) (hs _).1 (hs _).2 xX.o (by simp)
  ·skip
   have JP:=hd (show l.length<=k9 from(Kd.eN od.o).2.1);have hc1:=JQ (A:=some ⟨g,0,none⟩) (n:=l.length) (c:=k9) k (by have:=HK.o;omega) JP.o;obtain⟨A2,c2,hc2,hf2⟩:=Cm (k+1) (by have:=HK.o;omega) HN.o.1 (Kd.rM HC.o) ((k:Int)+1) (by omega);have Md:=hd hf2;clear hf2;have ew:wrap64 ((k:Int)+1)=(k:Int)+1:=by have:=HK.o;have:=HN.o;unfold wrap64;omega
   go_wp2_with fail
   refine st 9 (fun _=>True) [] trivial (fun ag=>?_);refine cZ 0 34 1 35 2 36 ?_;refine cZ 3 37 4 38 5 39 ?_;refine pu 6 40 ?_;refine on 7 (some 41) (fun K hK=>?_);refine Kd.aH bW (w0:=X) (W:=W9.drew) X.heap.size (by rfl) (.tmp 36) (.tmp 40) 26 25 (.agg #[.int .i64 0,.int .i64 0,.int .i64 0,.int .u64 0,.slice none 0 0]) 56 (by rfl) underlying26 jm rfl (by decide) (by decide) (.slice (some ⟨g,0,none⟩) k k9) (l.take k) (l.drop (k+1)) A2 (l.length-(k+1)) c2 (fun q=>ok q\/w.heap.size<=q) (fun q=>ok q/\q<w.heap.size) (by rfl) (by rfl) (Kd.T4 (Kd.CA od.o) (by have:=HK.o;omega)) (Kd.mS (Kd.bS (Kd.bS Md.o HB.o) iZ.o)) (fun q hq=>⟨.inl hq.1,fun e=>by have:=xX.o;have:=sF.o;have hq:q<w.heap.size:=hq.2;simp[Value.ownBlock]at e;omega⟩) (fun q hq=> .inr (cG (cG sF.o iZ.o.size) hq)) (aX iZ.o) iZ.o.size (by have:=HN.o;simp;omega) ?_;intro v8 w8 hR hB hG hat;obtain⟨P8,k8,e8⟩:=Kd.cg hR;generalize hn8:(l.take k++l.drop (k+1)).length=n8 at e8;subst e8;refine hK.o (Act.put _ (some 41) _) _ trivial (fun ag=>?_);clear hK K;refine nm ?_;refine pu 8 4 ?_;refine dn ?_
   go_wp2_with fail
   go_ret;exact oH HB.o (aX iZ.o) hR hG xX.o (by have:=HK.o;simp;omega)
  ·skip
   have hc3:=JQ (A:=A) (n:=l.length) (c:=c) k (by have:=HK.o;omega) HN.o.1;obtain⟨A2,c2,hc2,hf2⟩:=Cm k (by have:=HK.o;omega) HN.o.1 (Kd.rM HC.o) (k:Int) rfl;have Md:=hd (Kd.mS (Kd.bS (Kd.bS hf2 HB.o) iZ.o));clear hf2;have hft:Kd.F bW W9.drew (fun q=>ok q/\q<w.heap.size) A (l.take k).length (l.take k):=(Kd.T6 (show Kd.F bW W9.drew (fun q=>ok q/\q<w.heap.size) A l.length l from(Kd.mS (Kd.bS (Kd.bS (Kd.rM HC.o) HB.o) iZ.o))) (by have:=HK.o;omega));rw[show(l.take k).length=k by have:=HK.o;simp;omega]at hft;have HFT:=hd hft;clear hft
   go_wp2_with fail
   refine st 14 (fun w'=>w'.cell? ⟨w.heap.size,4,none⟩=some (.int .i64 raw.f0)/\w'.cell? ⟨w.heap.size,5,none⟩=some (.int .i64 raw.f1)/\w'.cell? ⟨w.heap.size,6,none⟩=some (.int .i64 raw.f2)/\w'.cell? ⟨w.heap.size,7,none⟩=some (.int .u64 raw.f3)/\w'.cell? ⟨w.heap.size,8,none⟩=some (.slice AR raw.f4.length cR)) [] ⟨y4,y5,y6,y7,y8⟩ (fun ag=>?_);refine cZ 1 45 2 46 3 47 ?_;refine pu 5 49 ?_;refine tk 6 50 ag ?_;refine cZ 9 53 10 54 11 55 ?_;refine tw 0 7 (some 44) (some 51) (fun K hK=>?_) (fun K hK=>?_)
   case' _=>
    rw[if_pos (by rfl)]
    go_simp
    refine hK.o _ _ ⟨(ak ag.1),(ak ag.2.1),(ak ag.2.2.1),(ak ag.2.2.2.1),(ak ag.2.2.2.2)⟩ (fun ag=>?_);clear hK K;refine tw 4 7 (some 48) (some 51) (fun K hK=>?_) (fun K hK=>?_)
    case' _=>
     refine Kd.aH bW (w0:=W9.drew) (W:=(W9.drew.alloc (.cells #[] 25))) W9.drew.heap.size (by rfl) (.tmp 44) (.tmp 47) 26 25 (.agg #[.int .i64 0,.int .i64 0,.int .i64 0,.int .u64 0,.slice none 0 0]) 56 (by rfl) underlying26 jm rfl (by decide) (by decide) (.slice (some ⟨W9.drew.heap.size,0,none⟩) 0 0) [] (l.take k) A k c (fun q=>ok q\/w.heap.size<=q) (fun q=>ok q/\q<w.heap.size) (by rfl) (by rfl) (qa (alloc_at rfl) (aU _) (fun k hk=> .inr (cG (cG sF.o iZ.o.size) hk))) (Kd.tI HFT.o _) (fun q hq=>⟨.inl hq.1,fun e=>by have:=xX.o;have:=sF.o;have:=iZ.o.size;have hq:q<w.heap.size:=hq.2;simp[Value.ownBlock]at e;omega⟩) (fun q hq=> .inr (cG (cG (cG sF.o iZ.o.size) (by simp)) hq)) (af (ay _ _) _) (by simp) (by have:=HN.o;have:=HK.o;simp;omega) ?_;intro v8 w8 Mg IC VN ID;obtain⟨P8,k8,e8⟩:=Kd.cg Mg;generalize ([]++l.take k).length=n8 at e8;subst e8;have sr:=(IC.block _ (aj tu.o)).trans tu.o;refine hK.o (Act.put _ (some 48) _) _ ⟨((aa sr 4).trans rfl),((aa sr 5).trans rfl),((aa sr 6).trans rfl),((aa sr 7).trans rfl),((aa sr 8).trans rfl)⟩ (fun ag=>?_);clear hK K;refine nm ?_;refine on 7 (some 51) (fun K hK=>?_);rw[if_pos (by rfl)]
     go_simp
     refine hK.o _ _ ⟨(ak ag.1),(ak ag.2.1),(ak ag.2.2.1),(ak ag.2.2.2.1),(ak ag.2.2.2.2)⟩ (fun ag=>?_);clear hK K;have LM:Hid (w.heap.size<=w8.heap.size):=hd (by have:=sF.o;have:=iZ.o.size;try (have:=IC.size);have:W9.drew.heap.size=W9.heap.size:=rfl;omega);have Zm:=hd (Kd.Cz Mg (.cells #[.int .i64 raw.f0,.int .i64 raw.f1,.int .i64 raw.f2,.int .u64 raw.f3,.slice AR raw.f4.length cR] 25));have TG:=hd (IC.alloc IC.size (.cells #[.int .i64 raw.f0,.int .i64 raw.f1,.int .i64 raw.f2,.int .u64 raw.f3,.slice AR raw.f4.length cR] 25));have Gb:Hid ((w8.alloc (.cells #[.int .i64 raw.f0,.int .i64 raw.f1,.int .i64 raw.f2,.int .u64 raw.f3,.slice AR raw.f4.length cR] 25)).heap[w8.heap.size]? =some (.cells #[.int .i64 raw.f0,.int .i64 raw.f1,.int .i64 raw.f2,.int .u64 raw.f3,.slice AR raw.f4.length cR] 25 (0,0))):=hd (dh w8 (.cells #[.int .i64 raw.f0,.int .i64 raw.f1,.int .i64 raw.f2,.int .u64 raw.f3,.slice AR raw.f4.length cR] 25));have LN:Hid (some w8.heap.size≠(Value.slice P8 n8 k8).ownBlock):=hd (fun e=>by have:=Kd.J1 Mg _ e.symm;omega);have HXz:=hd (((af (ay w8.heap.size w8) (.cells #[.int .i64 raw.f0,.int .i64 raw.f1,.int .i64 raw.f2,.int .u64 raw.f3,.slice AR raw.f4.length cR] 25)).block _ (aj sr)).trans sr);obtain⟨rb,hrb⟩:=ex w8.heap.size;rw[<-hrb]at Gb LN LM⊢;generalize w8.alloc (.cells #[.int .i64 raw.f0,.int .i64 raw.f1,.int .i64 raw.f2,.int .u64 raw.f3,.slice AR raw.f4.length cR] 25)=Wz at Zm TG Gb HXz ag⊢;clear hrb sr Mg IC VN ID
    rotate_left
    case' _=>
     rw[if_pos (by rfl)]
     go_simp
     refine hK.o _ _ ⟨(ak ag.1),(ak ag.2.1),(ak ag.2.2.1),(ak ag.2.2.2.1),(ak ag.2.2.2.2)⟩ (fun ag=>?_);clear hK K;refine on 4 (some 48) (fun K hK=>?_);refine Kd.aH bW (w0:=W9.drew) (W:=((W9.drew.alloc (.cells #[] 25)).alloc (.cells #[.int .i64 raw.f0,.int .i64 raw.f1,.int .i64 raw.f2,.int .u64 raw.f3,.slice AR raw.f4.length cR] 25))) W9.drew.heap.size (by rfl) (.tmp 44) (.tmp 47) 26 25 (.agg #[.int .i64 0,.int .i64 0,.int .i64 0,.int .u64 0,.slice none 0 0]) 56 (by rfl) underlying26 jm rfl (by decide) (by decide) (.slice (some ⟨W9.drew.heap.size,0,none⟩) 0 0) [] (l.take k) A k c (fun q=>ok q\/w.heap.size<=q) (fun q=>ok q/\q<w.heap.size) (by rfl) (by rfl) (Kd.Cz (qa (alloc_at rfl) (aU _) (fun k hk=> .inr (cG (cG sF.o iZ.o.size) hk))) _) (Kd.tI (Kd.tI HFT.o _) _) (fun q hq=>⟨.inl hq.1,fun e=>by have:=xX.o;have:=sF.o;have:=iZ.o.size;have hq:q<w.heap.size:=hq.2;simp[Value.ownBlock]at e;omega⟩) (fun q hq=> .inr (cG (cG (cG sF.o iZ.o.size) (by simp;omega)) hq)) (af (af (ay _ _) _) _) (by simp;omega) (by have:=HN.o;have:=HK.o;simp;omega) ?_;intro v8 w8 Mg IC VN ID;obtain⟨P8,k8,e8⟩:=Kd.cg Mg;generalize ([]++l.take k).length=n8 at e8;subst e8;have sr:=(IC.block _ (aj tu.o)).trans tu.o;refine hK.o (Act.put _ (some 48) _) _ ⟨((aa sr 4).trans rfl),((aa sr 5).trans rfl),((aa sr 6).trans rfl),((aa sr 7).trans rfl),((aa sr 8).trans rfl)⟩ (fun ag=>?_);clear hK K;refine nm ?_;have PB:((W9.drew.alloc (.cells #[] 25)).alloc (.cells #[.int .i64 raw.f0,.int .i64 raw.f1,.int .i64 raw.f2,.int .u64 raw.f3,.slice AR raw.f4.length cR] 25)).heap[W9.drew.heap.size+1]? =some (.cells #[.int .i64 raw.f0,.int .i64 raw.f1,.int .i64 raw.f2,.int .u64 raw.f3,.slice AR raw.f4.length cR] 25 (0,0)):=alloc_at (by simp);have LM:Hid (w.heap.size<=(W9.drew.heap.size+1)):=hd (by have:=sF.o;have:=iZ.o.size;try (have:=IC.size);have:W9.drew.heap.size=W9.heap.size:=rfl;omega);have Zm:=hd Mg;have TG:=hd IC;have Gb:Hid (w8.heap[(W9.drew.heap.size+1)]? =some (.cells #[.int .i64 raw.f0,.int .i64 raw.f1,.int .i64 raw.f2,.int .u64 raw.f3,.slice AR raw.f4.length cR] 25 (0,0))):=hd (bD PB VN (by simp[Value.ownBlock]));have LN:Hid (some (W9.drew.heap.size+1)≠(Value.slice P8 n8 k8).ownBlock):=hd (fun e=>by rcases lC ID e with h|h<;>simp[Value.ownBlock]at h<;>omega);have HXz:=hd sr;obtain⟨rb,hrb⟩:=ex (W9.heap.size+1);rw[show W9.drew.heap.size+1=rb from hrb.symm]at Gb LN LM
     try rw[<-hrb]
     obtain⟨Wz,rfl⟩:=ex w8;clear hrb sr Mg IC VN ID PB
    rotate_left
   rotate_left 2
   case' _=>
    rw[if_pos (by rfl)]
    go_simp
    refine hK.o _ _ ⟨(ak ag.1),(ak ag.2.1),(ak ag.2.2.1),(ak ag.2.2.2.1),(ak ag.2.2.2.2)⟩ (fun ag=>?_);clear hK K;refine on 0 (some 44) (fun K hK=>?_);rw[if_pos (by rfl)]
    go_simp
    refine hK.o _ _ ⟨(ak ag.1),(ak ag.2.1),(ak ag.2.2.1),(ak ag.2.2.2.1),(ak ag.2.2.2.2)⟩ (fun ag=>?_);clear hK K;refine on 4 (some 48) (fun K hK=>?_);refine Kd.aH bW (w0:=W9.drew) (W:=((W9.drew.alloc (.cells #[.int .i64 raw.f0,.int .i64 raw.f1,.int .i64 raw.f2,.int .u64 raw.f3,.slice AR raw.f4.length cR] 25)).alloc (.cells #[] 25))) W9.drew.heap.size (by rfl) (.tmp 44) (.tmp 47) 26 25 (.agg #[.int .i64 0,.int .i64 0,.int .i64 0,.int .u64 0,.slice none 0 0]) 56 (by rfl) underlying26 jm rfl (by decide) (by decide) (.slice (some ⟨W9.drew.heap.size+1,0,none⟩) 0 0) [] (l.take k) A k c (fun q=>ok q\/w.heap.size<=q) (fun q=>ok q/\q<w.heap.size) (by rfl) (by rfl) (qa (alloc_at (by simp)) (by simp) (fun k hk=> .inr (cG (cG sF.o iZ.o.size) hk))) (Kd.tI (Kd.tI HFT.o _) _) (fun q hq=>⟨.inl hq.1,fun e=>by have:=xX.o;have:=sF.o;have:=iZ.o.size;have hq:q<w.heap.size:=hq.2;simp[Value.ownBlock]at e;omega⟩) (fun q hq=> .inr (cG (cG (cG sF.o iZ.o.size) (by simp;omega)) hq)) (af (af (ay _ _) _) _) (by simp;omega) (by have:=HN.o;have:=HK.o;simp;omega) ?_;intro v8 w8 Mg IC VN ID;obtain⟨P8,k8,e8⟩:=Kd.cg Mg;generalize ([]++l.take k).length=n8 at e8;subst e8;have sr:=(IC.block _ (aj tu.o)).trans tu.o;refine hK.o (Act.put _ (some 48) _) _ ⟨((aa sr 4).trans rfl),((aa sr 5).trans rfl),((aa sr 6).trans rfl),((aa sr 7).trans rfl),((aa sr 8).trans rfl)⟩ (fun ag=>?_);clear hK K;refine nm ?_;have PB:((W9.drew.alloc (.cells #[.int .i64 raw.f0,.int .i64 raw.f1,.int .i64 raw.f2,.int .u64 raw.f3,.slice AR raw.f4.length cR] 25)).alloc (.cells #[] 25)).heap[W9.drew.heap.size]? =some (.cells #[.int .i64 raw.f0,.int .i64 raw.f1,.int .i64 raw.f2,.int .u64 raw.f3,.slice AR raw.f4.length cR] 25 (0,0)):=gv [.cells #[.int .i64 raw.f0,.int .i64 raw.f1,.int .i64 raw.f2,.int .u64 raw.f3,.slice AR raw.f4.length cR] 25,.cells #[] 25] W9.drew 0 _ rfl;have LM:Hid (w.heap.size<=W9.drew.heap.size):=hd (by have:=sF.o;have:=iZ.o.size;try (have:=IC.size);have:W9.drew.heap.size=W9.heap.size:=rfl;omega);have Zm:=hd Mg;have TG:=hd IC;have Gb:Hid (w8.heap[W9.drew.heap.size]? =some (.cells #[.int .i64 raw.f0,.int .i64 raw.f1,.int .i64 raw.f2,.int .u64 raw.f3,.slice AR raw.f4.length cR] 25 (0,0))):=hd (bD PB VN (by simp[Value.ownBlock]));have LN:Hid (some W9.drew.heap.size≠(Value.slice P8 n8 k8).ownBlock):=hd (fun e=>by rcases lC ID e with h|h<;>simp[Value.ownBlock]at h<;>omega);have HXz:=hd sr;obtain⟨rb,hrb⟩:=ex W9.heap.size;rw[show W9.drew.heap.size=rb from hrb.symm]at Gb LN LM
    try rw[<-hrb]
    obtain⟨Wz,rfl⟩:=ex w8;clear hrb sr Mg IC VN ID PB
   all_goals
    have hz:W9.heap.size<=Wz.heap.size:=TG.o.size;have adY:=hd (Kd.dK (Kd.oo HR.o) (fun q hq bI=>(TG.o.block q (show q<W9.heap.size from jv (jv bI sF.o) iZ.o.size)).trans ((iZ.o.block q (jv bI sF.o)).trans (HB.o.block q bI))));have Tc:=sF.o;have Hz:=xX.o;refine on 8 (some 52) (fun K hK=>?_);refine Kd.aH bW (w0:=W9.drew) (W:=Wz) W9.drew.heap.size (by rfl) (.tmp 48) (.tmp 51) 26 25 (.agg #[.int .i64 0,.int .i64 0,.int .i64 0,.int .u64 0,.slice none 0 0]) 56 (by rfl) underlying26 jm rfl (by decide) (by decide) (.slice P8 n8 k8) (l.take k) [raw] (some ⟨rb,0,none⟩) 1 1 (fun q=>ok q\/w.heap.size<=q) (fun q=>(ok q/\q<w.heap.size)\/q=rb) (by rfl) (by rfl) Zm.o (fun W' hW=>oB (cells:= [.int .i64 raw.f0,.int .i64 raw.f1,.int .i64 raw.f2,.int .u64 raw.f3,.slice AR raw.f4.length cR]) (xs:= [raw]) ((hW rb (.inr rfl) (aj Gb.o)).trans Gb.o) ((dU.none _ _).snoc (adY.o W' (fun q hq bI=>hW q (.inl hq) bI)) rfl) (show 1<=9223372036854775807 by decide)) (fun q hq=>⟨by rcases hq with hq|hq;exact .inl hq.1;right;have:=LM.o;omega,fun e=>by rcases hq with hq|hq;have h:=Kd.GH Zm.o q e.symm;have:=hq.2;have:=HB.o.size;have:=iZ.o.size;have:W9.drew.heap.size=W9.heap.size:=rfl;omega;exact LN.o (by rw[<-hq];exact e)⟩) (fun q hq=> .inr (cG (cG (cG sF.o iZ.o.size) TG.o.size) hq)) TG.o TG.o.size (by have:=HN.o;have:=HK.o;simp;omega) ?_;intro v7 w7 hR7 Qp hG7 aiA;obtain⟨P7,k7,e7⟩:=Kd.cg hR7;generalize (l.take k++ [raw]).length=n7 at e7;subst e7;have Zn:=(Qp.block _ (aj tu.o)).trans tu.o;refine hK.o (Act.put _ (some 52) _) _ ⟨((aa Zn 4).trans rfl),((aa Zn 5).trans rfl),((aa Zn 6).trans rfl),((aa Zn 7).trans rfl),((aa Zn 8).trans rfl)⟩ (fun ag=>?_);clear hK K;refine nm ?_;refine on 12 (some 56) (fun K hK=>?_);refine Kd.aH bW (w0:=W9.drew) (W:=w7) W9.drew.heap.size (by rfl) (.tmp 52) (.tmp 55) 26 25 (.agg #[.int .i64 0,.int .i64 0,.int .i64 0,.int .u64 0,.slice none 0 0]) 56 (by rfl) underlying26 jm rfl (by decide) (by decide) (.slice P7 n7 k7) (l.take k++ [raw]) (l.drop k) A2 (l.length-k) c2 (fun q=>ok q\/w.heap.size<=q) (fun q=>ok q/\q<w.heap.size) (by rfl) (by rfl) hR7 (Kd.bS Md.o Qp) (fun q hq=>⟨.inl hq.1,fun e=>by have h:=Kd.GH hR7 q e.symm;have:=HB.o.size;have:=iZ.o.size;have hq:q<w.heap.size:=hq.2;have:W9.drew.heap.size=W9.heap.size:=rfl;omega⟩) (fun q hq=> .inr (cG (cG (cG sF.o iZ.o.size) Qp.size) hq)) Qp Qp.size (by have:=HN.o;have:=HK.o;simp;omega) ?_;intro v6 w6 hR6 hB6 hG6 aiB;obtain⟨P6,k6,e6⟩:=Kd.cg hR6;generalize Vr:(l.take k++ [raw]++l.drop k).length=n6 at e6;subst e6;have F2:=(hB6.block _ (aj tu.o)).trans tu.o;refine hK.o (Act.put _ (some 56) _) _ ⟨((aa F2 4).trans rfl),((aa F2 5).trans rfl),((aa F2 6).trans rfl),((aa F2 7).trans rfl),((aa F2 8).trans rfl)⟩ (fun ag=>?_);clear hK K;refine nm ?_;refine pu 13 4 ?_;refine dn ?_
    go_wp2_with fail
    go_ret;exact IA HB.o (aX iZ.o) hR6 hB6 (by have:=HK.o;simp;omega)
 case' inl=>
  have hl0:l= []:=List.eq_nil_of_length_eq_zero (by omega);subst hl0;clear h;refine(rY t2 1 (by decide) (by decide) _).mono ?_;rintro e w'⟨⟨k,hk,rfl⟩,rfl⟩;generalize (w.alloc (.cells #[.int .i64 t0,.int .i64 t1,.int .i64 t2,.int .u64 t3,.int .i64 raw.f0,.int .i64 raw.f1,.int .i64 raw.f2,.int .u64 raw.f3,.slice AR raw.f4.length cR] 99))=X at hX hb⊢;have HX:=hd hX;have HB:=hd hb;have HR:=hd hr;have HO:Hid (Kd.N bW 25 (X.alloc (.cells #[] 25)) X.heap.size (fun q=>ok q\/w.heap.size<=q) (.slice (some ⟨X.heap.size,0,none⟩) 0 0) []):=hd (qa (alloc_at rfl) (aU _) (fun k hk=> .inr (cG HB.o.size hk)));have gD:=af (ay X.heap.size X) (.cells #[] 25);have HF:=hd (Kd.bS (Kd.rM hC) (az HB.o gD));have fK:=hd gD;have sF:=hd (show w.heap.size<=X.heap.size from HB.o.size);have IB:=hd (show∀k,ok k/\k<w.heap.size->(ok k\/w.heap.size<=k)/\some k≠(Value.slice (some ⟨X.heap.size,0,none⟩) 0 0).ownBlock from fun k hk=>⟨.inl hk.1,fun e=>by have:=sF.o;have:=hk.2;simp[Value.ownBlock]at e;omega⟩);have hbz:X.heap.size<=(X.alloc (.cells #[] 25)).heap.size:=by simp
  clear hX hb hr gD hC
  go_wp2_with (first|(at_builtin;(refine Kd.gj bW (w0:=X) X.heap.size rfl (.tmp 13) (.tmp 14) 26 25 (.agg #[.int .i64 0,.int .i64 0,.int .i64 0,.int .u64 0,.slice none 0 0]) 56 rfl underlying26 jm rfl (dG _) (dG _) (.slice (some ⟨X.heap.size,0,none⟩) 0 0) [] [] A 0 c (fun q=>ok q\/w.heap.size<=q) (fun q=>ok q/\q<w.heap.size) rfl rfl HO.o HF.o IB.o (fun q hq=> .inr (cG (cG sF.o hbz) hq)) fK.o hbz (show(0+0)*56<=140737488355328 by decide) ?_);intro v9 w9 hR hB hG hat;obtain⟨P9,k9,e9⟩:=Kd.cg hR;subst e9;have DO:=(hB.block _ (aj HX.o)).trans HX.o;have y4:w9.cell? ⟨w.heap.size,4,none⟩=some (.int .i64 raw.f0):=(aa DO 4).trans rfl;have y5:w9.cell? ⟨w.heap.size,5,none⟩=some (.int .i64 raw.f1):=(aa DO 5).trans rfl;have y6:w9.cell? ⟨w.heap.size,6,none⟩=some (.int .i64 raw.f2):=(aa DO 6).trans rfl;have y7:w9.cell? ⟨w.heap.size,7,none⟩=some (.int .u64 raw.f3):=(aa DO 7).trans rfl;have y8:w9.cell? ⟨w.heap.size,8,none⟩=some (.slice AR raw.f4.length cR):=(aa DO 8).trans rfl;have iZ:=hd hB;clear hR hB hG hat DO hbz))
  go_ret;exact⟨some ⟨w9.heap.size,0,none⟩,1,[raw],rfl,aU 1,fun W' hW=>oB (xs:= [raw]) (cells:= [.int .i64 raw.f0,.int .i64 raw.f1,.int .i64 raw.f2,.int .u64 raw.f3,.slice AR raw.f4.length cR]) ((hW w9.heap.size (.inr (az HB.o iZ.o).size) (aj (dh w9 _))).trans (dh w9 _)) ((dU.none _ _).snoc (Kd.tJ (Kd.oo HR.o) (az HB.o (az iZ.o (af (ay _ _) _))) W' (fun q hq bI=>hW q (.inl hq.1) bI)) rfl) (show 1<=9223372036854775807 by decide),by simp,az HB.o (az iZ.o (af (ay _ _) _))⟩
theorem wm:Kd.Heap (Kd.slice 3 (Kd.int .i64)):=Kd.fA _ (Kd.eM _)
theorem SH:Kd.Heap qo:=Kd.jE _ (Kd.cF wm wm)
theorem PD:Kd.Heap j8:=Kd.jE _ (Kd.cF Kd.nH (Kd.cF Kd.nH (Kd.eM _)))
theorem PE:Kd.Heap fL:=Kd.jE _ (Kd.cF (Kd.eM _) (Kd.cF wm (Kd.fA _ wk)))
theorem PG:Kd.Heap jQ:=Kd.jE _ (Kd.cF (Kd.eM _) (Kd.eM _))
theorem Cn:Kd.Heap eE:=Kd.jE _ (Kd.cF (Kd.eM _) (Kd.cF Kd.Bp (Kd.eM _)))
theorem PI:Kd.Heap lW:=Kd.jE _ (Kd.cF Kd.nH (Kd.cF (Kd.eM _) (Kd.eM _)))
theorem LO:Kd.Heap fM:=Kd.jE _ (Kd.cF Kd.Bp (Kd.cF (Kd.eM _) (Kd.cF (Kd.eM _) (Kd.fA _ (Kd.eM _)))))
theorem PJ:Kd.Heap kH:=Kd.jE _ (Kd.cF Kd.nH (Kd.fA _ (Kd.eM _)))
theorem iT:Kd.Heap bZ:=Kd.jE _ (Kd.cF (Kd.fA _ SH) (Kd.cF (Kd.fA _ PD) (Kd.cF (Kd.fA _ PE) (Kd.cF (Kd.fA _ PG) (Kd.cF (Kd.fA _ Cn) (Kd.cF (Kd.fA _ PI) (Kd.cF (Kd.fA _ LO) (Kd.fA _ PJ))))))))
section
variable {w W:World} {M:bL} {v0 v1 v2 v3 v4 v5 v6 v7:Value} {A:Option Addr} {c:Nat}
theorem LQ(h:bZ.K W M [v0,v1,v2,v3,v4,v5,v6,v7]){xs:List ig}(hl:xs.length<=c)(hC:qo.C W A xs.length xs):bZ.K W {M with f0:=xs} [.slice A xs.length c,v1,v2,v3,v4,v5,v6,v7]:=by
 obtain⟨A0,c0,A1,c1,A2,c2,A3,c3,A4,c4,A5,c5,A6,c6,A7,c7,he,l0,g0,l1,g1,l2,g2,l3,g3,l4,g4,l5,g5,l6,g6,l7,g7⟩:=aD h;injection he with h0 he;injection he with h1 he;injection he with h2 he;injection he with h3 he;injection he with h4 he;injection he with h5 he;injection he with h6 he;injection he with h7 he;subst h0;subst h1;subst h2;subst h3;subst h4;subst h5;subst h6;subst h7;exact kz W {M with f0:=xs} hl hC l1 g1 l2 g2 l3 g3 l4 g4 l5 g5 l6 g6 l7 g7
theorem LR(h:bZ.K W M [v0,v1,v2,v3,v4,v5,v6,v7]){xs:List iX}(hl:xs.length<=c)(hC:j8.C W A xs.length xs):bZ.K W {M with f1:=xs} [v0,.slice A xs.length c,v2,v3,v4,v5,v6,v7]:=by
 obtain⟨A0,c0,A1,c1,A2,c2,A3,c3,A4,c4,A5,c5,A6,c6,A7,c7,he,l0,g0,l1,g1,l2,g2,l3,g3,l4,g4,l5,g5,l6,g6,l7,g7⟩:=aD h;injection he with h0 he;injection he with h1 he;injection he with h2 he;injection he with h3 he;injection he with h4 he;injection he with h5 he;injection he with h6 he;injection he with h7 he;subst h0;subst h1;subst h2;subst h3;subst h4;subst h5;subst h6;subst h7;exact kz W {M with f1:=xs} l0 g0 hl hC l2 g2 l3 g3 l4 g4 l5 g5 l6 g6 l7 g7
theorem wu(h:bZ.K W M [v0,v1,v2,v3,v4,v5,v6,v7]){xs:List iB}(hl:xs.length<=c)(hC:fL.C W A xs.length xs):bZ.K W {M with f2:=xs} [v0,v1,.slice A xs.length c,v3,v4,v5,v6,v7]:=by
 obtain⟨A0,c0,A1,c1,A2,c2,A3,c3,A4,c4,A5,c5,A6,c6,A7,c7,he,l0,g0,l1,g1,l2,g2,l3,g3,l4,g4,l5,g5,l6,g6,l7,g7⟩:=aD h;injection he with h0 he;injection he with h1 he;injection he with h2 he;injection he with h3 he;injection he with h4 he;injection he with h5 he;injection he with h6 he;injection he with h7 he;subst h0;subst h1;subst h2;subst h3;subst h4;subst h5;subst h6;subst h7;exact kz W {M with f2:=xs} l0 g0 l1 g1 hl hC l3 g3 l4 g4 l5 g5 l6 g6 l7 g7
theorem LS(h:bZ.K W M [v0,v1,v2,v3,v4,v5,v6,v7]){xs:List jw}(hl:xs.length<=c)(hC:jQ.C W A xs.length xs):bZ.K W {M with f3:=xs} [v0,v1,v2,.slice A xs.length c,v4,v5,v6,v7]:=by
 obtain⟨A0,c0,A1,c1,A2,c2,A3,c3,A4,c4,A5,c5,A6,c6,A7,c7,he,l0,g0,l1,g1,l2,g2,l3,g3,l4,g4,l5,g5,l6,g6,l7,g7⟩:=aD h;injection he with h0 he;injection he with h1 he;injection he with h2 he;injection he with h3 he;injection he with h4 he;injection he with h5 he;injection he with h6 he;injection he with h7 he;subst h0;subst h1;subst h2;subst h3;subst h4;subst h5;subst h6;subst h7;exact kz W {M with f3:=xs} l0 g0 l1 g1 l2 g2 hl hC l4 g4 l5 g5 l6 g6 l7 g7
theorem Co(h:bZ.K W M [v0,v1,v2,v3,v4,v5,v6,v7]){xs:List dV}(hl:xs.length<=c)(hC:eE.C W A xs.length xs):bZ.K W {M with f4:=xs} [v0,v1,v2,v3,.slice A xs.length c,v5,v6,v7]:=by
 obtain⟨A0,c0,A1,c1,A2,c2,A3,c3,A4,c4,A5,c5,A6,c6,A7,c7,he,l0,g0,l1,g1,l2,g2,l3,g3,l4,g4,l5,g5,l6,g6,l7,g7⟩:=aD h;injection he with h0 he;injection he with h1 he;injection he with h2 he;injection he with h3 he;injection he with h4 he;injection he with h5 he;injection he with h6 he;injection he with h7 he;subst h0;subst h1;subst h2;subst h3;subst h4;subst h5;subst h6;subst h7;exact kz W {M with f4:=xs} l0 g0 l1 g1 l2 g2 l3 g3 hl hC l5 g5 l6 g6 l7 g7
theorem Cp(h:bZ.K W M [v0,v1,v2,v3,v4,v5,v6,v7]){xs:List jg}(hl:xs.length<=c)(hC:lW.C W A xs.length xs):bZ.K W {M with f5:=xs} [v0,v1,v2,v3,v4,.slice A xs.length c,v6,v7]:=by
 obtain⟨A0,c0,A1,c1,A2,c2,A3,c3,A4,c4,A5,c5,A6,c6,A7,c7,he,l0,g0,l1,g1,l2,g2,l3,g3,l4,g4,l5,g5,l6,g6,l7,g7⟩:=aD h;injection he with h0 he;injection he with h1 he;injection he with h2 he;injection he with h3 he;injection he with h4 he;injection he with h5 he;injection he with h6 he;injection he with h7 he;subst h0;subst h1;subst h2;subst h3;subst h4;subst h5;subst h6;subst h7;exact kz W {M with f5:=xs} l0 g0 l1 g1 l2 g2 l3 g3 l4 g4 hl hC l6 g6 l7 g7
theorem LU(h:bZ.K W M [v0,v1,v2,v3,v4,v5,v6,v7]){xs:List eF}(hl:xs.length<=c)(hC:fM.C W A xs.length xs):bZ.K W {M with f6:=xs} [v0,v1,v2,v3,v4,v5,.slice A xs.length c,v7]:=by
 obtain⟨A0,c0,A1,c1,A2,c2,A3,c3,A4,c4,A5,c5,A6,c6,A7,c7,he,l0,g0,l1,g1,l2,g2,l3,g3,l4,g4,l5,g5,l6,g6,l7,g7⟩:=aD h;injection he with h0 he;injection he with h1 he;injection he with h2 he;injection he with h3 he;injection he with h4 he;injection he with h5 he;injection he with h6 he;injection he with h7 he;subst h0;subst h1;subst h2;subst h3;subst h4;subst h5;subst h6;subst h7;exact kz W {M with f6:=xs} l0 g0 l1 g1 l2 g2 l3 g3 l4 g4 l5 g5 hl hC l7 g7
theorem Cq(h:bZ.K W M [v0,v1,v2,v3,v4,v5,v6,v7]){xs:List jA}(hl:xs.length<=c)(hC:kH.C W A xs.length xs):bZ.K W {M with f7:=xs} [v0,v1,v2,v3,v4,v5,v6,.slice A xs.length c]:=by
 obtain⟨A0,c0,A1,c1,A2,c2,A3,c3,A4,c4,A5,c5,A6,c6,A7,c7,he,l0,g0,l1,g1,l2,g2,l3,g3,l4,g4,l5,g5,l6,g6,l7,g7⟩:=aD h;injection he with h0 he;injection he with h1 he;injection he with h2 he;injection he with h3 he;injection he with h4 he;injection he with h5 he;injection he with h6 he;injection he with h7 he;subst h0;subst h1;subst h2;subst h3;subst h4;subst h5;subst h6;subst h7;exact kz W {M with f7:=xs} l0 g0 l1 g1 l2 g2 l3 g3 l4 g4 l5 g5 l6 g6 hl hC
end
theorem oG.more{k k':Nat}{M:bL}(h:oG k M)(hk:k<=k'):oG k' M:=by
 obtain⟨a,b,c,d,e,f,g,i,j,l⟩:=h;exact⟨by omega,by omega,by omega,by omega,by omega,by omega,by omega,by omega,fun q hq=>by have:=j q hq;omega,l⟩
abbrev Gc(t1 t2:Int)(bi:Nat):Obj:= .cells #[.bool ((bits .and .i64 t1 1)==(0:Int)),.int .i64 (bits .and .i64 t2 3),.int .i64 (bits .and .i64 t1 2047),.slice (some ⟨bi,0,none⟩) 3 3] 76
abbrev Gd(t1 t2:Int):Obj:= .cells #[.string ⟨#[111,100,100]⟩,.int .i64 (bits .and .i64 t2 3),.int .i64 (bits .and .i64 t1 15)] 86
abbrev wR(tv t2 t3:Int):Obj:= .cells #[.int .i64 tv,.bool ((bits .and .i64 t2 1)==(0:Int)),.int .u64 t3] 55
theorem rG{W:World}{b t:Nat}{v0 v1 v2 v3 v4 v5 v6 v7:Value}(h:W.heap[b]? =some (.cells #[v0,v1,v2,v3,v4,v5,v6,v7] t (0,0))):W.cell? ⟨b,0,none⟩=some v0/\W.cell? ⟨b,1,none⟩=some v1/\W.cell? ⟨b,2,none⟩=some v2/\W.cell? ⟨b,3,none⟩=some v3/\W.cell? ⟨b,4,none⟩=some v4/\W.cell? ⟨b,5,none⟩=some v5/\W.cell? ⟨b,6,none⟩=some v6/\W.cell? ⟨b,7,none⟩=some v7:=
 ⟨(aa h 0).trans rfl,(aa h 1).trans rfl,(aa h 2).trans rfl,(aa h 3).trans rfl,(aa h 4).trans rfl,(aa h 5).trans rfl,(aa h 6).trans rfl,(aa h 7).trans rfl⟩
structure fU(w W:World)(bm br:Nat)(dL:Nat->Prop)(M:bL)(cs:List Value)(k:Nat):Prop where
 box:W.heap[bm]? =some (.cells cs.toArray 37 (0,0))
 res:W.heap[br]? =some (.cells eR 37 (0,0))
 fk:Kd.FK bZ W dL M cs
 sz:oG k M
 bel:Below w.heap.size w W
 nm:w.heap.size<=bm
 nr:w.heap.size<=br
 ne:bm≠br
 nok: ∀q,dL q->q≠bm/\q≠br
def IE(w:World)(dL:Nat->Prop)(k:Nat)(e:Ending)(w':World):Prop:= ∃M cs,e= .returned (.agg cs.toArray)/\Kd.FK bZ w' (fun q=>dL q\/w.heap.size<=q) M cs/\oG (k+1) M/\Below w.heap.size w w'
theorem fU.below{w W W':World}{bm br:Nat}{dL:Nat->Prop}{M:bL}{cs:List Value}{k:Nat}(h:fU w W bm br dL M cs k)(hb:Below W.heap.size W W'):fU w W' bm br dL M cs k:=
 ⟨(hb.block _ (aj h.box)).trans h.box,(hb.block _ (aj h.res)).trans h.res,Kd.tJ h.fk hb,h.sz,aA h.bel h.bel.size hb,h.nm,h.nr,h.ne,h.nok⟩
theorem fU.grown{w W W':World}{bm br:Nat}{dL:Nat->Prop}{M:bL}{cs:List Value}{k:Nat}{row:Option Nat}(h:fU w W bm br dL M cs k)(hG:W.grownBy W' row)(hr: ∀q,row=some q->q≠bm/\q≠br/\ ¬dL q/\w.heap.size<=q):fU w W' bm br dL M cs k:=
 ⟨bD h.box hG (fun e=>(hr _ e.symm).1 rfl),bD h.res hG (fun e=>(hr _ e.symm).2.1 rfl),Kd.dK h.fk (fun q hq bI=>hG.block q bI (fun e=>(hr q e.symm).2.2.1 hq)),h.sz,qx h.bel row h.bel.size hG (fun q hq=>(hr q hq).2.2.2),h.nm,h.nr,h.ne,h.nok⟩
theorem fU.put{w W:World}{bm br:Nat}{dL pU:Nat->Prop}{M M':bL}{cs cs':List Value}{k k':Nat}(h:fU w W bm br dL M cs k)(j:Nat)(v:Value)(hc:cs.toArray.setIfInBounds j v=cs'.toArray)(hK:Kd.FK bZ W pU M' cs')(hok: ∀q,pU q->q≠bm/\q≠br)(hs:oG k' M'):fU w (W.setCell ⟨bm,j,none⟩ v) bm br pU M' cs' k':=
 ⟨hc▸bC h.box j v,bR h.res (p:=⟨bm,j,none⟩) (fun e=>h.ne e.symm) _,Kd.dK hK (fun q hq _=>dX W ⟨bm,j,none⟩ v q (fun e=>(hok q hq).1 e)),hs,aK h.bel h.nm,h.nm,h.nr,h.ne,hok⟩
theorem fU.done{w W W':World}{bm br:Nat}{dL Zo:Nat->Prop}{M:bL}{cs:List Value}{k:Nat}(h:fU w W bm br dL M cs (k+1))(hb:Below w.heap.size w W')(hw: ∀q,q≠br->W'.heap[q]? =W.heap[q]?)(hm: ∀q,dL q->Zo q\/w.heap.size<=q):IE w Zo k (.returned (.agg cs.toArray)) W':=
 ⟨M,cs,rfl,Kd.jK (Kd.dK h.fk (fun q hq _=>hw q (h.nok q hq).2)) hm,h.sz,hb⟩
theorem DR{W:World}{ok:Nat->Prop}{M:bL}{cs:List Value}(h:Kd.FK bZ W ok M cs): ∃A0 c0 A1 c1 A2 c2 A3 c3 A4 c4 A5 c5 A6 c6 A7 c7,cs= [.slice A0 M.f0.length c0,.slice A1 M.f1.length c1,.slice A2 M.f2.length c2,.slice A3 M.f3.length c3,.slice A4 M.f4.length c4,.slice A5 M.f5.length c5,.slice A6 M.f6.length c6,.slice A7 M.f7.length c7]/\(M.f0.length<=c0/\M.f1.length<=c1/\M.f2.length<=c2/\M.f3.length<=c3/\M.f4.length<=c4/\M.f5.length<=c5/\M.f6.length<=c6/\M.f7.length<=c7)/\Kd.F qo W ok A0 M.f0.length M.f0/\Kd.F j8 W ok A1 M.f1.length M.f1/\Kd.F fL W ok A2 M.f2.length M.f2/\Kd.F jQ W ok A3 M.f3.length M.f3/\Kd.F eE W ok A4 M.f4.length M.f4/\Kd.F lW W ok A5 M.f5.length M.f5/\Kd.F fM W ok A6 M.f6.length M.f6/\Kd.F kH W ok A7 M.f7.length M.f7:=by
 obtain⟨A0,c0,A1,c1,A2,c2,A3,c3,A4,c4,A5,c5,A6,c6,A7,c7,he,l0,g0,l1,g1,l2,g2,l3,g3,l4,g4,l5,g5,l6,g6,l7,g7⟩:=aD (Kd.jO h);subst he
 have key: ∀W',(∀q,ok q->q<W.heap.size->W'.heap[q]? =W.heap[q]?)->qo.C W' A0 M.f0.length M.f0/\j8.C W' A1 M.f1.length M.f1/\fL.C W' A2 M.f2.length M.f2/\jQ.C W' A3 M.f3.length M.f3/\eE.C W' A4 M.f4.length M.f4/\lW.C W' A5 M.f5.length M.f5/\fM.C W' A6 M.f6.length M.f6/\kH.C W' A7 M.f7.length M.f7:=fun W' hW=>by
  obtain⟨B0,e0,B1,e1,B2,e2,B3,e3,B4,e4,B5,e5,B6,e6,B7,e7,he,-,g0,-,g1,-,g2,-,g3,-,g4,-,g5,-,g6,-,g7⟩:=aD (h W' hW);injection he with h0 he;injection he with h1 he;injection he with h2 he;injection he with h3 he;injection he with h4 he;injection he with h5 he;injection he with h6 he;injection he with h7 he;injection h0 with h0;injection h1 with h1;injection h2 with h2;injection h3 with h3;injection h4 with h4;injection h5 with h5;injection h6 with h6;injection h7 with h7;subst h0;subst h1;subst h2;subst h3;subst h4;subst h5;subst h6;subst h7;exact⟨g0,g1,g2,g3,g4,g5,g6,g7⟩
 exact⟨A0,c0,A1,c1,A2,c2,A3,c3,A4,c4,A5,c5,A6,c6,A7,c7,rfl,⟨l0,l1,l2,l3,l4,l5,l6,l7⟩,fun W' hW=>(key W' hW).1,fun W' hW=>(key W' hW).2.1,fun W' hW=>(key W' hW).2.2.1,fun W' hW=>(key W' hW).2.2.2.1,fun W' hW=>(key W' hW).2.2.2.2.1,fun W' hW=>(key W' hW).2.2.2.2.2.1,fun W' hW=>(key W' hW).2.2.2.2.2.2.1,fun W' hW=>(key W' hW).2.2.2.2.2.2.2⟩
theorem fU.qb{w W:World}{bm br:Nat}{dL Zo:Nat->Prop}{M:bL}{cs:List Value}{k:Nat}{v0 v1 v2 v3 v4 v5 v6 v7:Value}(h:fU w W bm br dL M cs (k+1))(hm: ∀q,dL q->Zo q\/w.heap.size<=q):IE w Zo k (.returned (.agg cs.toArray)) ((((((((W.setCell ⟨br,0,none⟩ v0).setCell ⟨br,1,none⟩ v1).setCell ⟨br,2,none⟩ v2).setCell ⟨br,3,none⟩ v3).setCell ⟨br,4,none⟩ v4).setCell ⟨br,5,none⟩ v5).setCell ⟨br,6,none⟩ v6).setCell ⟨br,7,none⟩ v7):=
 h.done (aK (aK (aK (aK (aK (aK (aK (aK h.bel h.nr) h.nr) h.nr) h.nr) h.nr) h.nr) h.nr) h.nr) (fun q hq=>((dX _ ⟨br,7,none⟩ _ q hq).trans ((dX _ ⟨br,6,none⟩ _ q hq).trans ((dX _ ⟨br,5,none⟩ _ q hq).trans ((dX _ ⟨br,4,none⟩ _ q hq).trans ((dX _ ⟨br,3,none⟩ _ q hq).trans ((dX _ ⟨br,2,none⟩ _ q hq).trans ((dX _ ⟨br,1,none⟩ _ q hq).trans ((dX _ ⟨br,0,none⟩ _ q hq).trans rfl))))))))) hm
theorem fU.tail{w W:World}{bm br k:Nat}{dL:Nat->Prop}{M:bL}{cs:List Value}(h:fU w W bm br dL M cs k):(W.cell? ⟨br,0,none⟩=some (.slice none 0 0)/\W.cell? ⟨br,1,none⟩=some (.slice none 0 0)/\W.cell? ⟨br,2,none⟩=some (.slice none 0 0)/\W.cell? ⟨br,3,none⟩=some (.slice none 0 0)/\W.cell? ⟨br,4,none⟩=some (.slice none 0 0)/\W.cell? ⟨br,5,none⟩=some (.slice none 0 0)/\W.cell? ⟨br,6,none⟩=some (.slice none 0 0)/\W.cell? ⟨br,7,none⟩=some (.slice none 0 0))/\W.frozen? ⟨br,0,none⟩=false/\W.frozen? ⟨br,1,none⟩=false/\W.frozen? ⟨br,2,none⟩=false/\W.frozen? ⟨br,3,none⟩=false/\W.frozen? ⟨br,4,none⟩=false/\W.frozen? ⟨br,5,none⟩=false/\W.frozen? ⟨br,6,none⟩=false/\W.frozen? ⟨br,7,none⟩=false:=
 ⟨⟨(aa h.res 0).trans rfl,(aa h.res 1).trans rfl,(aa h.res 2).trans rfl,(aa h.res 3).trans rfl,(aa h.res 4).trans rfl,(aa h.res 5).trans rfl,(aa h.res 6).trans rfl,(aa h.res 7).trans rfl⟩,ah h.res 0,ah h.res 1,ah h.res 2,ah h.res 3,ah h.res 4,ah h.res 5,ah h.res 6,ah h.res 7⟩
theorem fU.named{w W:World}{bm br k:Nat}{dL:Nat->Prop}{M:bL}{P0 P1 P2 P3 P4 P5 P6 P7:Option Addr}{n0 d0 n1 d1 n2 d2 n3 d3 n4 d4 n5 d5 n6 d6 n7 d7:Nat}(h:fU w W bm br dL M [.slice P0 n0 d0,.slice P1 n1 d1,.slice P2 n2 d2,.slice P3 n3 d3,.slice P4 n4 d4,.slice P5 n5 d5,.slice P6 n6 d6,.slice P7 n7 d7] k):
 ∃(W1:World) (M1:bL) (P0:Option Addr) (n0 d0:Nat) (P1:Option Addr) (n1 d1:Nat) (P2:Option Addr) (n2 d2:Nat) (P3:Option Addr) (n3 d3:Nat) (P4:Option Addr) (n4 d4:Nat) (P5:Option Addr) (n5 d5:Nat) (P6:Option Addr) (n6 d6:Nat) (P7:Option Addr) (n7 d7:Nat),W=W1/\Hid (fU w W1 bm br dL M1 [.slice P0 n0 d0,.slice P1 n1 d1,.slice P2 n2 d2,.slice P3 n3 d3,.slice P4 n4 d4,.slice P5 n5 d5,.slice P6 n6 d6,.slice P7 n7 d7] k)/\(W1.cell? ⟨bm,0,none⟩=some (.slice P0 n0 d0)/\W1.cell? ⟨bm,1,none⟩=some (.slice P1 n1 d1)/\W1.cell? ⟨bm,2,none⟩=some (.slice P2 n2 d2)/\W1.cell? ⟨bm,3,none⟩=some (.slice P3 n3 d3)/\W1.cell? ⟨bm,4,none⟩=some (.slice P4 n4 d4)/\W1.cell? ⟨bm,5,none⟩=some (.slice P5 n5 d5)/\W1.cell? ⟨bm,6,none⟩=some (.slice P6 n6 d6)/\W1.cell? ⟨bm,7,none⟩=some (.slice P7 n7 d7))/\(W1.cell? ⟨br,0,none⟩=some (.slice none 0 0)/\W1.cell? ⟨br,1,none⟩=some (.slice none 0 0)/\W1.cell? ⟨br,2,none⟩=some (.slice none 0 0)/\W1.cell? ⟨br,3,none⟩=some (.slice none 0 0)/\W1.cell? ⟨br,4,none⟩=some (.slice none 0 0)/\W1.cell? ⟨br,5,none⟩=some (.slice none 0 0)/\W1.cell? ⟨br,6,none⟩=some (.slice none 0 0)/\W1.cell? ⟨br,7,none⟩=some (.slice none 0 0))/\W1.frozen? ⟨br,0,none⟩=false/\W1.frozen? ⟨br,1,none⟩=false/\W1.frozen? ⟨br,2,none⟩=false/\W1.frozen? ⟨br,3,none⟩=false/\W1.frozen? ⟨br,4,none⟩=false/\W1.frozen? ⟨br,5,none⟩=false/\W1.frozen? ⟨br,6,none⟩=false/\W1.frozen? ⟨br,7,none⟩=false:=
 ⟨W,M,P0,n0,d0,P1,n1,d1,P2,n2,d2,P3,n3,d3,P4,n4,d4,P5,n5,d5,P6,n6,d6,P7,n7,d7,rfl,hd h,⟨(aa h.box 0).trans rfl,(aa h.box 1).trans rfl,(aa h.box 2).trans rfl,(aa h.box 3).trans rfl,(aa h.box 4).trans rfl,(aa h.box 5).trans rfl,(aa h.box 6).trans rfl,(aa h.box 7).trans rfl⟩,h.tail⟩
theorem oG.ad3{k:Nat}{M:bL}(h:oG k M){xs:List ig}(hl:xs.length<=k+1):oG (k+1) {M with f0:=xs}:=by
 obtain⟨s0,s1,s2,s3,s4,s5,s6,s7,sc,ss⟩:=h;exact⟨hl,by show M.f1.length<=k+1;omega,by show M.f2.length<=k+1;omega,by show M.f3.length<=k+1;omega,by show M.f4.length<=k+1;omega,by show M.f5.length<=k+1;omega,by show M.f6.length<=k+1;omega,by show M.f7.length<=k+1;omega,by intro q hq;have:=sc q hq;omega,ss⟩
theorem oG.ad4{k:Nat}{M:bL}(h:oG k M){xs:List iX}(hl:xs.length<=k+1):oG (k+1) {M with f1:=xs}:=by
 obtain⟨s0,s1,s2,s3,s4,s5,s6,s7,sc,ss⟩:=h;exact⟨by show M.f0.length<=k+1;omega,hl,by show M.f2.length<=k+1;omega,by show M.f3.length<=k+1;omega,by show M.f4.length<=k+1;omega,by show M.f5.length<=k+1;omega,by show M.f6.length<=k+1;omega,by show M.f7.length<=k+1;omega,by intro q hq;have:=sc q hq;omega,ss⟩
theorem oG.VO{k:Nat}{M:bL}(h:oG k M){xs:List iB}(hl:xs.length<=k+1)(hc: ∀f,f∈xs->f.f1.length<=k+1/\f.f2.length<=1000000+(k+1)):oG (k+1) {M with f2:=xs}:=by
 obtain⟨s0,s1,s2,s3,s4,s5,s6,s7,sc,ss⟩:=h;exact⟨by show M.f0.length<=k+1;omega,by show M.f1.length<=k+1;omega,hl,by show M.f3.length<=k+1;omega,by show M.f4.length<=k+1;omega,by show M.f5.length<=k+1;omega,by show M.f6.length<=k+1;omega,by show M.f7.length<=k+1;omega,hc,ss⟩
theorem oG.ad5{k:Nat}{M:bL}(h:oG k M){xs:List jw}(hl:xs.length<=k+1):oG (k+1) {M with f3:=xs}:=by
 obtain⟨s0,s1,s2,s3,s4,s5,s6,s7,sc,ss⟩:=h;exact⟨by show M.f0.length<=k+1;omega,by show M.f1.length<=k+1;omega,by show M.f2.length<=k+1;omega,hl,by show M.f4.length<=k+1;omega,by show M.f5.length<=k+1;omega,by show M.f6.length<=k+1;omega,by show M.f7.length<=k+1;omega,by intro q hq;have:=sc q hq;omega,ss⟩
theorem oG.ad6{k:Nat}{M:bL}(h:oG k M){xs:List dV}(hl:xs.length<=k+1):oG (k+1) {M with f4:=xs}:=by
 obtain⟨s0,s1,s2,s3,s4,s5,s6,s7,sc,ss⟩:=h;exact⟨by show M.f0.length<=k+1;omega,by show M.f1.length<=k+1;omega,by show M.f2.length<=k+1;omega,by show M.f3.length<=k+1;omega,hl,by show M.f5.length<=k+1;omega,by show M.f6.length<=k+1;omega,by show M.f7.length<=k+1;omega,by intro q hq;have:=sc q hq;omega,ss⟩
theorem oG.ad7{k:Nat}{M:bL}(h:oG k M){xs:List jg}(hl:xs.length<=k+1)(he: ∀e,e∈xs->e.f0.size<=100):oG (k+1) {M with f5:=xs}:=by
 obtain⟨s0,s1,s2,s3,s4,s5,s6,s7,sc,ss⟩:=h;exact⟨by show M.f0.length<=k+1;omega,by show M.f1.length<=k+1;omega,by show M.f2.length<=k+1;omega,by show M.f3.length<=k+1;omega,by show M.f4.length<=k+1;omega,hl,by show M.f6.length<=k+1;omega,by show M.f7.length<=k+1;omega,by intro q hq;have:=sc q hq;omega,he⟩
theorem oG.ad8{k:Nat}{M:bL}(h:oG k M){xs:List eF}(hl:xs.length<=k+1):oG (k+1) {M with f6:=xs}:=by
 obtain⟨s0,s1,s2,s3,s4,s5,s6,s7,sc,ss⟩:=h;exact⟨by show M.f0.length<=k+1;omega,by show M.f1.length<=k+1;omega,by show M.f2.length<=k+1;omega,by show M.f3.length<=k+1;omega,by show M.f4.length<=k+1;omega,by show M.f5.length<=k+1;omega,hl,by show M.f7.length<=k+1;omega,by intro q hq;have:=sc q hq;omega,ss⟩
theorem oG.ad9{k:Nat}{M:bL}(h:oG k M){xs:List jA}(hl:xs.length<=k+1):oG (k+1) {M with f7:=xs}:=by
 obtain⟨s0,s1,s2,s3,s4,s5,s6,s7,sc,ss⟩:=h;exact⟨by show M.f0.length<=k+1;omega,by show M.f1.length<=k+1;omega,by show M.f2.length<=k+1;omega,by show M.f3.length<=k+1;omega,by show M.f4.length<=k+1;omega,by show M.f5.length<=k+1;omega,by show M.f6.length<=k+1;omega,hl,by intro q hq;have:=sc q hq;omega,ss⟩
theorem fU.more{w W:World}{bm br:Nat}{dL pU:Nat->Prop}{M:bL}{cs:List Value}{k:Nat}(h:fU w W bm br dL M cs k)(hs:oG (k+1) M)(hm: ∀q,dL q->pU q)(hok: ∀q,pU q->q≠bm/\q≠br):fU w W bm br pU M cs (k+1):=
 ⟨h.box,h.res,Kd.jK h.fk hm,hs,h.bel,h.nm,h.nr,h.ne,hok⟩
theorem VP{W:World}{ok:Nat->Prop}{x:iB}{a:Value}{B1 B2:Option Addr}{n1 n2 d1 d2:Nat}(h:Kd.FK fL W ok x [a,.slice B1 n1 d1,.slice B2 n2 d2]):a= .int .i64 x.f0/\n1=x.f1.length/\n2=x.f2.length/\x.f1.length<=d1/\x.f2.length<=d2/\Kd.F (Kd.int .i64) W ok B1 x.f1.length x.f1/\Kd.F bW W ok B2 x.f2.length x.f2:=by
 have key: ∀W',(∀q,ok q->q<W.heap.size->W'.heap[q]? =W.heap[q]?)->a= .int .i64 x.f0/\n1=x.f1.length/\n2=x.f2.length/\x.f1.length<=d1/\x.f2.length<=d2/\(Kd.int .i64).C W' B1 x.f1.length x.f1/\bW.C W' B2 x.f2.length x.f2:=fun W' hW=>by
  obtain⟨C1,e1,C2,e2,he,m1,q1,m2,q2⟩:=jY (h W' hW);injection he with h0 he;injection he with h1 he;injection he with h2 he;injection h1 with ha hb hc;injection h2 with ha2 hb2 hc2;subst ha;subst ha2;subst hc;subst hc2;exact⟨h0,hb,hb2,m1,m2,q1,q2⟩
 obtain⟨a1,a2,a3,a4,a5,-⟩:=key W (fun _ _ _=>rfl);exact⟨a1,a2,a3,a4,a5,fun W' hW=>(key W' hW).2.2.2.2.2.1,fun W' hW=>(key W' hW).2.2.2.2.2.2⟩
theorem z8{W:World}{base gf n cap i:Nat}{Cl:Nat->Prop}{fs:List iB}(h:Kd.N fL 59 W base Cl (.slice (some ⟨gf,0,none⟩) n cap) fs)(hi:i<n): ∃fe B1 d1 B2 d2,fe∈fs/\(∀j u,([.int .i64 fe.f0,.slice B1 fe.f1.length d1,.slice B2 fe.f2.length d2]:List Value)[j]? =some u->W.cell? ⟨gf,i*3+j,none⟩=some u)/\(∀j,W.frozen? ⟨gf,i*3+j,none⟩=false)/\fe.f1.length<=d1/\fe.f2.length<=d2/\Kd.F (Kd.int .i64) W (fun q=>Cl q/\q≠gf) B1 fe.f1.length fe.f1/\Kd.F bW W (fun q=>Cl q/\q≠gf) B2 fe.f2.length fe.f2:=by
 obtain⟨c,lJ,hK,hcc,hfr⟩:=Kd.GI h yD (i:Int) (by omega) (by omega);have hn:=(Kd.eN h).1
 have hmem:fs.getD ((i:Int)).toNat yD∈fs:=by
  rw[dF,gq,MA (by omega)];exact List.getElem_mem _
 generalize fs.getD ((i:Int)).toNat yD=fe at hK hmem;rw[dF]at hcc hfr;obtain⟨B1,d1,B2,d2,rfl,l1,-,l2,-⟩:=jY (Kd.jO hK);obtain⟨-,-,-,-,-,f1,f2⟩:=VP hK;exact⟨fe,B1,d1,B2,d2,hmem,hcc,hfr,l1,l2,f1,f2⟩
theorem DT{W:World}{base gf n cap i j:Nat}{Cl kK:Nat->Prop}{fs:List iB}{x:iB}{u:Value}{c:List Value}{B1 B2:Option Addr}{d1 d2:Nat}(h:Kd.N fL 59 W base Cl (.slice (some ⟨gf,0,none⟩) n cap) fs)(hi:i<n)(lJ:c.length=3)(hcc: ∀q v,c[q]? =some v->W.cell? ⟨gf,i*3+q,none⟩=some v)(hj:j<3)(hx:c.take j++ [u]++c.drop (j+1)= [.int .i64 x.f0,.slice B1 x.f1.length d1,.slice B2 x.f2.length d2])(l1:x.f1.length<=d1)(l2:x.f2.length<=d2)(f1:Kd.F (Kd.int .i64) W kK B1 x.f1.length x.f1)(f2:Kd.F bW W kK B2 x.f2.length x.f2)(hok: ∀q,kK q->Cl q/\q≠gf):
 Kd.N fL 59 (W.setCell ⟨gf,i*3+j,none⟩ u) base Cl (.slice (some ⟨gf,0,none⟩) n cap) (fs.set i x)/\W.grownBy (W.setCell ⟨gf,i*3+j,none⟩ u) (some gf):=by
 have hs:=Kd.Bq h (i:Int) (by omega) (by omega) (c:=c) (seg:= [u]) (j:=j) lJ (fun q v hv=>by rw[dF];exact hcc q v hv) (show j+1<=3 by omega) (x':=x) (kK:=kK) (fun W' hW=>by
  show fL.K W' x (c.take j++ [u]++c.drop (j+1))
  rw[hx];exact tO W' x l1 (f1 W' hW) l2 (f2 W' hW)) hok
 rw[dF]at hs;exact hs
structure Bk(X W:World)(bs:List (Nat×Obj)):Prop where
 bel:Below X.heap.size X W
 blk: ∀p,p∈bs->X.heap.size<=p.1/\W.heap[p.1]? =some p.2
section
variable {α:Type} {d:Kd α} {e:Nat} {X W W':World} {bs:List (Nat×Obj)} {v:Value} {xs:List α}
theorem Bk.start(X:World):Bk X X []:=⟨ay _ _,fun _ h=>by cases h⟩
theorem Bk.alloc(h:Bk X W bs)(o:Obj):Bk X (W.alloc o) ((W.heap.size,o)::bs):=⟨h.bel.alloc h.bel.size o,fun p hp=>by
 rcases List.mem_cons.1 hp with rfl|hp
 ·exact⟨h.bel.size,dh W o⟩
 ·exact⟨(h.blk p hp).1,((af (ay _ W) o).block _ (aj (h.blk p hp).2)).trans (h.blk p hp).2⟩⟩
theorem Bk.jr(h:Bk X W bs)(o:Obj):Bk X (W.alloc o) bs:=⟨h.bel.alloc h.bel.size o,fun p hp=>⟨(h.blk p hp).1,((af (ay _ W) o).block _ (aj (h.blk p hp).2)).trans (h.blk p hp).2⟩⟩
abbrev nE(d:Kd α)(e:Nat)(B0:Nat->Prop)(X W:World)(bs:List (Nat×Obj))(v:Value)(xs:List α):Prop:=Kd.N d e W X.heap.size (fun q=>(B0 q\/X.heap.size<=q)/\ ∀p,p∈bs->q≠p.1) v xs
theorem Bk.nil{B0:Nat->Prop}(h:Bk X W bs):nE d e B0 X (W.alloc (.cells #[] e)) bs (.slice (some ⟨W.heap.size,0,none⟩) 0 0) []:=
 Kd.Qz (qa (base:=W.heap.size) (alloc_at rfl) (aU _) (fun k hk=>⟨.inr (cG h.bel.size hk),fun p hp e=>by have:=aj (h.blk p hp).2;omega⟩)) h.bel.size
theorem nE.alloc{B0:Nat->Prop}(h:nE d e B0 X W bs v xs)(o:Obj):nE d e B0 X (W.alloc o) ((W.heap.size,o)::bs) v xs:=
 Kd.mU (Kd.Cz (Kd.Mz h W.heap.size (aU _)) o) (fun k hk=>⟨hk.1.1,fun p hp=>by
  rcases List.mem_cons.1 hp with rfl|hp
  ·exact hk.2
  ·exact hk.1.2 p hp⟩)
theorem Bk.grown(h:Bk X W bs)(hb:Below X.heap.size X W'){B0:Nat->Prop}(hR:nE d e B0 X W bs v xs)(hG:W.grownBy W' v.ownBlock):Bk X W' bs:=
 ⟨hb,fun p hp=>⟨(h.blk p hp).1,bD (h.blk p hp).2 hG (fun e=>(hR.1 p.1 e.symm).2 p hp rfl)⟩⟩
theorem Bk.old{B0:Nat->Prop}{be:Nat}(h:Bk X W bs)(_:nE d e B0 X W bs v xs)(hw: ∀q,B0 q->q<X.heap.size)(hb:X.heap.size<=be): ∀q,B0 q->((B0 q\/X.heap.size<=q)/\ ∀p,p∈bs->q≠p.1)/\some q≠(Value.slice (some ⟨be,0,none⟩) 0 0).ownBlock:=
 fun q hq=>⟨⟨.inl hq,fun p hp he=>by have:=(h.blk p hp).1;have:=hw q hq;omega⟩,fun he=>by have:=hw q hq;simp[Value.ownBlock]at he;omega⟩
theorem Bk.fresh{B0:Nat->Prop}(h:Bk X W bs): ∀q,W.heap.size<=q->(B0 q\/X.heap.size<=q)/\ ∀p,p∈bs->q≠p.1:=
 fun q hq=>⟨.inr (cG h.bel.size hq),fun p hp he=>by have:=aj (h.blk p hp).2;omega⟩
theorem nE.own{B0:Nat->Prop}(h:nE d e B0 X W bs v xs): ∀p,p∈bs->some p.1≠v.ownBlock:=fun p hp he=>(h.1 p.1 he.symm).2 p hp rfl
theorem Aa{b k q:Nat}(h:q≠b):(W.freeze ⟨b,k,none⟩ 1).heap[q]? =W.heap[q]? :=by
 unfold World.freeze;rw[if_neg (by decide)];show(W.heap.modify b _)[q]? =_
 rw[Array.getElem?_modify,if_neg (fun hh=>h hh.symm)]
theorem LV{b k:Nat}{C:Array Value}{t:TypeId}(h:W.heap[b]? =some (.cells C t)):(W.freeze ⟨b,k,none⟩ 1).heap[b]? =some (.cells C t (k,k+1)):=by
 unfold World.freeze;rw[if_neg (by decide)];show(W.heap.modify b _)[b]? =_
 rw[Array.getElem?_modify,if_pos rfl,h];rfl
theorem Ge{b k:Nat}:(W.freeze ⟨b,k,none⟩ 1).heap.size=W.heap.size:=by
 unfold World.freeze;rw[if_neg (by decide)];show(W.heap.modify b _).size=_
 simp
theorem wz{b n c:Nat}{C:Array Value}(h:W.heap[b]? =some (.cells C 5)):(convert 51 51 (.slice (some ⟨b,0,none⟩) n c)).run prog W= .ok (.slice (some ⟨b,0,none⟩) n c) (W.freeze ⟨b,C.size,none⟩ 1):=by
 have hsh:W.shape? b=some (5,C.size):=by
  unfold World.shape?;rw[h]
 simp[convert,run_underlying underlying51,run_underlying underlying5,markStringish,hsh]
theorem Bk.mark{b:Nat}{C:Array Value}{t:TypeId}(h:Bk X W [(b,.cells C t)]):Bk X (W.freeze ⟨b,C.size,none⟩ 1) [(b,.cells C t (C.size,C.size+1))]:=by
 have hb:=h.blk _ jy;refine⟨⟨?_,?_,?_,by rw[Ge];exact h.bel.size,fun q hq=>(Aa (by have:=hb.1;simp only at this;omega)).trans (h.bel.block q hq)⟩,fun p hp=>?_⟩
 ·refine Eq.trans ?_ h.bel.os
  unfold World.freeze;rw[if_neg (by decide)]
 ·refine Eq.trans ?_ h.bel.tape
  unfold World.freeze;rw[if_neg (by decide)]
 ·refine Eq.trans ?_ h.bel.output
  unfold World.freeze;rw[if_neg (by decide)]
 ·rw[List.mem_singleton.1 hp]
  exact⟨hb.1,LV hb.2⟩
theorem nE.mark{b:Nat}{B0:Nat->Prop}{C:Array Value}{t:TypeId}(hR:nE d e B0 X W [(b,.cells C t)] v xs)(_:Bk X W [(b,.cells C t)]):nE d e B0 X (W.freeze ⟨b,C.size,none⟩ 1) [(b,.cells C t (C.size,C.size+1))] v xs:=
 Kd.mU (Kd.qB hR (fun q hq _=>Aa (fun e=>hq.2 _ jy e))) (fun q hq=>⟨hq.1,fun p hp=>by rw[List.mem_singleton.1 hp];exact hq.2 (b,.cells C t) jy⟩)
end
theorem PK:(prog.info? 40).map (fun i=>(i.zero,i.size,i.bytes))=some (some (.agg #[.slice none 0 0,.slice none 0 0]),qo.sz,48):=by kernel_rfl
theorem JR:(prog.info? 72).map (fun i=>(i.zero,i.size,i.bytes))=some (some (.agg #[.string ⟨#[]⟩,.string ⟨#[]⟩,.int .i64 0]),j8.sz,40):=by kernel_rfl
theorem nA:(prog.info? 55).map (fun i=>(i.zero,i.size,i.bytes))=some (some (.agg #[.int .i64 0,.bool false,.int .u64 0]),eE.sz,24):=by kernel_rfl
theorem rH:(prog.info? 76).map (fun i=>(i.zero,i.size,i.bytes))=some (some (.agg #[.bool false,.int .i64 0,.int .i64 0,.slice none 0 0]),fM.sz,48):=by kernel_rfl
theorem ym:(prog.info? 53).map (fun i=>(i.zero,i.size,i.bytes))=some (some (.agg #[.string ⟨#[]⟩,.slice none 0 0]),kH.sz,40):=by kernel_rfl
theorem aea(a:Int):0<=bits .and .i64 a 3/\bits .and .i64 a 3<4:=by
 have h:(BitVec.ofInt 64 a&&& BitVec.ofInt 64 3).toNat<=3:=by rw[BitVec.toNat_and];exact cG Nat.and_le_right (by decide)
 show 0<=IntKind.i64.wrap (((BitVec.ofInt 64 a&&& BitVec.ofInt 64 3).toNat:Nat):Int)/\IntKind.i64.wrap (((BitVec.ofInt 64 a&&& BitVec.ofInt 64 3).toNat:Nat):Int)<4
 generalize (BitVec.ofInt 64 a&&& BitVec.ofInt 64 3).toNat=n at h⊢;obtain rfl|rfl|rfl|rfl:n=0\/n=1\/n=2\/n=3:=by omega
 all_goals decide
theorem Kd.VQ{e base:Nat}{W:World}{ok:Nat->Prop}{v:Value}{xs:List Int}(h:Kd.N (Kd.int .i64) e W base ok v xs):Kd.N (Kd.int .i64) e W base (fun q=>base<=q) v xs:=by
 have hb:=Kd.GH h;obtain⟨h0,rows,hl,hR,hf⟩:=h
 exact⟨hb,rows,hl,hR,fun j x c hx hc W' hW=>by
  have hk:(Kd.int .i64).K W x c:=Kd.jO (hf j x c hx hc);exact hk⟩
theorem dm{J C:Prop}(h:J->C)(j:J):C:=h j
theorem PM(w:World)(M:bL)(cs:List Value)(k:Nat)(dL:Nat->Prop)(hok: ∀q,dL q->q<w.heap.size)(hM:Kd.FK bZ w dL M cs)(hS:oG k M)(hk:k<=1000)(t0 t1 t2 t3:Int)(raw:aW)(AR:Option Addr)(cR:Nat)(hr:Kd.FK bW w dL raw [.int .i64 raw.f0,.int .i64 raw.f1,.int .i64 raw.f2,.int .u64 raw.f3,.slice AR raw.f4.length cR]):Calls prog 36 #[.agg cs.toArray,.agg #[.int .i64 t0,.int .i64 t1,.int .i64 t2,.int .u64 t3,.int .i64 raw.f0,.int .i64 raw.f1,.int .i64 raw.f2,.int .u64 raw.f3,.slice AR raw.f4.length cR]] w (IE w dL k):=by
 obtain⟨A0,c0,A1,c1,A2,c2,A3,c3,A4,c4,A5,c5,A6,c6,A7,c7,rfl,uT,g0,g1,g2,g3,g4,g5,g6,g7⟩:=DR hM
 go_enter func36,ntmps36
 have HM:=hd hM;have HS:=hd hS;have HK:=hd hk;have HR:=hd hr;have ql:=hd hok;clear hM hS hk hr hok;have HL:=hd uT;have HF0:=hd g0;have L4:=hd g1;have Md:=hd g2;have HF3:=hd g3;have HF4:=hd g4;have HF5:=hd g5;have HF6:=hd g6;have HF7:=hd g7;clear uT g0 g1 g2 g3 g4 g5 g6 g7;obtain⟨X,hX⟩:=ex ((((w.alloc (.cells #[.slice A0 M.f0.length c0,.slice A1 M.f1.length c1,.slice A2 M.f2.length c2,.slice A3 M.f3.length c3,.slice A4 M.f4.length c4,.slice A5 M.f5.length c5,.slice A6 M.f6.length c6,.slice A7 M.f7.length c7] 37)).alloc (.cells #[.int .i64 t0,.int .i64 t1,.int .i64 t2,.int .u64 t3,.int .i64 raw.f0,.int .i64 raw.f1,.int .i64 raw.f2,.int .u64 raw.f3,.slice AR raw.f4.length cR] 99)).alloc (.cells eR 37)));obtain⟨xm,xt,xr,xb⟩:=al3 hX;have HA:Hid (fU w X (w.heap.size) (w.heap.size+1+1) dL M [.slice A0 M.f0.length c0,.slice A1 M.f1.length c1,.slice A2 M.f2.length c2,.slice A3 M.f3.length c3,.slice A4 M.f4.length c4,.slice A5 M.f5.length c5,.slice A6 M.f6.length c6,.slice A7 M.f7.length c7] k):=hd ⟨xm,xr,Kd.tJ HM.o xb,HS.o,xb,aU _,by omega,by omega,fun q hq=>⟨fun e=>by have hq:=ql.o q hq;omega,fun e=>by have hq:=ql.o q hq;omega⟩⟩;have Qq:=hd xt;have PN:=hd xb;have HXE:=hd hX;clear xm xr xb xt hX
 go_wp2_with fail
 all_goals (rw[<-HXE.o];clear HXE)
 case' inr=>
  have hf1:0<M.f2.length:=by omega
  clear h;refine(rY t1 (M.f2.length:Int) (by omega) (by have:=HS.o.n2;have:=HK.o;omega) _).mono ?_;rintro e w'⟨⟨f,hf,rfl⟩,hw⟩;rw[hw];clear hw;have Eb:=hd (show f<M.f2.length by omega);clear hf hf1;have g1:((M.f2.length:Int)>(f:Int)):=by have:=Eb.o;omega
  have y0:X.cell? ⟨w.heap.size+1,0,none⟩=some (.int .i64 t0):=(aa Qq.o 0).trans rfl;have y1:X.cell? ⟨w.heap.size+1,1,none⟩=some (.int .i64 t1):=(aa Qq.o 1).trans rfl;have y2:X.cell? ⟨w.heap.size+1,2,none⟩=some (.int .i64 t2):=(aa Qq.o 2).trans rfl;have y3:X.cell? ⟨w.heap.size+1,3,none⟩=some (.int .u64 t3):=(aa Qq.o 3).trans rfl;have y4:X.cell? ⟨w.heap.size+1,4,none⟩=some (.int .i64 raw.f0):=(aa Qq.o 4).trans rfl;have y5:X.cell? ⟨w.heap.size+1,5,none⟩=some (.int .i64 raw.f1):=(aa Qq.o 5).trans rfl;have y6:X.cell? ⟨w.heap.size+1,6,none⟩=some (.int .i64 raw.f2):=(aa Qq.o 6).trans rfl;have y7:X.cell? ⟨w.heap.size+1,7,none⟩=some (.int .u64 raw.f3):=(aa Qq.o 7).trans rfl;have y8:X.cell? ⟨w.heap.size+1,8,none⟩=some (.slice AR raw.f4.length cR):=(aa Qq.o 8).trans rfl;obtain⟨m0,m1,m2,m3,m4,m5,m6,m7⟩:=c8 HA.o.box;have LW:=hd (show∀q,(dL q\/X.heap.size<=q)->dL q\/w.heap.size<=q from fun q hq=>hq.imp id (fun h=>cG (by have h:=HA.o.res;have:=aj h;omega) h));have Gf:=hd (show w.heap.size+3<=X.heap.size by have h:=HA.o.res;have:=aj h;omega);have wA:=hd (show∀q,(dL q\/X.heap.size<=q)->q≠w.heap.size/\q≠w.heap.size+1+1 from(fun q hq=>by have:=Gf.o;rcases hq with hq|hq;have:=ql.o q hq;constructor<;>omega;constructor<;>omega));by_cases cw:(t0.tmod 4 !=3)=true
  case' pos=>
   have m2e:=ak (o:= .cells #[] 59) m2;have gD:=af (ay X.heap.size X) (.cells #[] 59);have HN:Hid (Kd.N fL 59 (X.alloc (.cells #[] 59)) X.heap.size (fun q=>dL q\/X.heap.size<=q) (.slice (some ⟨X.heap.size,0,none⟩) 0 0) []):=hd (qa (alloc_at rfl) (aU _) (fun k hk=> .inr hk));have PO:=hd (Kd.bS Md.o (az PN.o gD));have fK:=hd gD;have hbz:X.heap.size<=(X.alloc (.cells #[] 59)).heap.size:=by simp
   have IB:=hd (show∀q,dL q->(dL q\/X.heap.size<=q)/\some q≠(Value.slice (some ⟨X.heap.size,0,none⟩) 0 0).ownBlock from fun q hq=>⟨.inl hq,fun e=>by have:=Gf.o;have:=ql.o q hq;simp[Value.ownBlock]at e;omega⟩);have uT:(([]:List iB).length+M.f2.length)*56<=140737488355328:=by have:=HS.o.n2;have:=HK.o;simp;omega
   clear gD
   go_wp2_with (first|(at_builtin;(refine Kd.gj fL (w0:=X) X.heap.size rfl (.tmp 28) (.tmp 30) 30 59 (.agg #[.int .i64 0,.slice none 0 0,.slice none 0 0]) 56 rfl underlying30 yg rfl (dG _) (dG _) (.slice (some ⟨X.heap.size,0,none⟩) 0 0) [] M.f2 A2 M.f2.length c2 (fun q=>dL q\/X.heap.size<=q) dL rfl rfl HN.o PO.o IB.o (fun q hq=> .inr (cG hbz hq)) fK.o hbz uT ?_);intro v9 w9 hR hB hG hat;have hR:Kd.N fL 59 w9 X.heap.size (fun q=>dL q\/X.heap.size<=q) v9 M.f2:=hR;obtain⟨g,k9,e9,Hz,-⟩:=Kd.yy hR (by have:=Eb.o;omega);subst e9;have DO:=(hB.block _ (aj Qq.o)).trans Qq.o;have xX:=hd Hz;have od:=hd hR;have iZ:=hd hB;have tu:=hd DO;clear hR hB hG hat uT hbz Hz DO))
   obtain⟨fe,B1,e1,B2,e2,hmem,hcc,hfr,b1,b2,TH,hF2⟩:=z8 od.o Eb.o;have IG:=hd hmem;have yN:=hd hcc;have Qb:=hd hfr;have tA:=hd (And.intro b1 b2);have L4:=hd TH;have HFI:=hd hF2;clear hmem hcc hfr b1 b2 TH hF2;have Zl:w9.cell? ⟨g,f*3+2,none⟩=some (.slice B2 fe.f2.length e2):=yN.o 2 _ rfl;have i0:(0:Int)<=(f:Int):=by omega
   have i1:(f:Int)<(M.f2.length:Int):=by have:=Eb.o;omega
   have i2:((f:Int)).toNat=f:=dF f;have yy0:w9.cell? ⟨w.heap.size+1,0,none⟩=some (.int .i64 t0):=(aa tu.o 0).trans rfl;have Zp:w9.cell? ⟨w.heap.size+1,1,none⟩=some (.int .i64 t1):=(aa tu.o 1).trans rfl;have Zq:w9.cell? ⟨w.heap.size+1,2,none⟩=some (.int .i64 t2):=(aa tu.o 2).trans rfl;have yy3:w9.cell? ⟨w.heap.size+1,3,none⟩=some (.int .u64 t3):=(aa tu.o 3).trans rfl;have yy4:w9.cell? ⟨w.heap.size+1,4,none⟩=some (.int .i64 raw.f0):=(aa tu.o 4).trans rfl;have yy5:w9.cell? ⟨w.heap.size+1,5,none⟩=some (.int .i64 raw.f1):=(aa tu.o 5).trans rfl;have yy6:w9.cell? ⟨w.heap.size+1,6,none⟩=some (.int .i64 raw.f2):=(aa tu.o 6).trans rfl;have yy7:w9.cell? ⟨w.heap.size+1,7,none⟩=some (.int .u64 raw.f3):=(aa tu.o 7).trans rfl;have yy8:w9.cell? ⟨w.heap.size+1,8,none⟩=some (.slice AR raw.f4.length cR):=(aa tu.o 8).trans rfl;refine st 12 (fun w'=>w'.cell? ⟨g,f*3+2,none⟩=some (.slice B2 fe.f2.length e2)/\w'.cell? ⟨w.heap.size+1,0,none⟩=some (.int .i64 t0)/\w'.cell? ⟨w.heap.size+1,1,none⟩=some (.int .i64 t1)/\w'.cell? ⟨w.heap.size+1,2,none⟩=some (.int .i64 t2)/\w'.cell? ⟨w.heap.size+1,3,none⟩=some (.int .u64 t3)/\w'.cell? ⟨w.heap.size+1,4,none⟩=some (.int .i64 raw.f0)/\w'.cell? ⟨w.heap.size+1,5,none⟩=some (.int .i64 raw.f1)/\w'.cell? ⟨w.heap.size+1,6,none⟩=some (.int .i64 raw.f2)/\w'.cell? ⟨w.heap.size+1,7,none⟩=some (.int .u64 raw.f3)/\w'.cell? ⟨w.heap.size+1,8,none⟩=some (.slice AR raw.f4.length cR)) [11] ⟨Zl,yy0,Zp,Zq,yy3,yy4,yy5,yy6,yy7,yy8⟩ (fun ag=>?_);refine cZ 0 32 1 33 2 34 ?_;refine cZ 3 35 4 36 5 37 ?_;refine tk 6 38 ag ?_;refine tk 7 39 ag ?_;refine on 8 (some 40) (fun K hK=>?_);refine ge (LK w9.drew B2 e2 fe.f2 (fun q=>(dL q\/X.heap.size<=q)/\q≠g) (Kd.mS HFI.o) tA.o.2 (by have h:=(HS.o.c fe IG.o).2;have:=HK.o;omega) t0 t1 t2 t3 raw AR cR (Kd.jK (Kd.dK (Kd.dK HR.o (fun q hq bI=>PN.o.block q bI)) (fun q hq bI=>iZ.o.block q bI)) (fun q hq=>⟨.inl hq,fun e=>by have:=xX.o;have:=Gf.o;have:=ql.o q hq;omega⟩))) ?_;rintro e w'⟨A',c',l',rfl,hlc,hFl,Tj,hb⟩;have VR:=(hb.cell (aR _ _ Zl)).trans Zl;have hx':=(hb.block _ (aj tu.o)).trans tu.o;have ki:=hd hb;have aec:=hd hFl;have K4:=hd (And.intro hlc Tj);clear hb hFl hlc Tj;refine⟨_,rfl,?_⟩;refine hK.o _ _ ⟨VR,((aa hx' 0).trans rfl),((aa hx' 1).trans rfl),((aa hx' 2).trans rfl),((aa hx' 3).trans rfl),((aa hx' 4).trans rfl),((aa hx' 5).trans rfl),((aa hx' 6).trans rfl),((aa hx' 7).trans rfl),((aa hx' 8).trans rfl)⟩ (fun ag=>?_);clear hK K;refine nm ?_;have Zr:=hd (Kd.oT (Kd.CA od.o) ki.o);have zs:w'.cell? ⟨g,f*3+2,none⟩=some (.slice B2 fe.f2.length e2):=VR;have fs:w'.frozen? ⟨g,f*3+2,none⟩=false:=by obtain⟨_,_,_,_,_,_,_,VS,-⟩:=z8 Zr.o Eb.o;exact VS 2
   refine pu2 9 41 10 42 ?_;refine la 11 ?_;refine dn ?_;have Mh:=DT (j:=2) (u:= .slice A' l'.length c') (x:=⟨fe.f0,fe.f1,l'⟩) (B1:=B1) (B2:=A') (d1:=e1) (d2:=c') (kK:=(fun q=>(dL q\/X.heap.size<=q)/\q≠g)) Zr.o Eb.o (c:= [.int .i64 fe.f0,.slice B1 fe.f1.length e1,.slice B2 fe.f2.length e2]) rfl (fun q v hv=>(ki.o.cell (aR w9 _ (yN.o q v hv))).trans (yN.o q v hv)) (by decide) rfl tA.o.1 K4.o.1 (Kd.bS (Kd.mS L4.o) ki.o) (Kd.Cx aec.out (fun q hq=>by rcases hq with hq|hq;exact hq;have h1:=iZ.o.size;have hq:w9.heap.size<=q:=hq;have h2:=Kd.J1 od.o g (by simp[Value.ownBlock]);exact⟨.inr (by omega),by omega⟩)) (fun q hq=>hq);have Zs:=((HA.o.below iZ.o).below (aX (ay _ _))).below ki.o;have PR:=Zs.grown Mh.2 (fun q hq=>by injection hq with hq;have:=xX.o;have:=Gf.o;subst hq;exact⟨by omega,by omega,fun h=>by have:=ql.o _ h;omega,by omega⟩);have SI:=hd PR;have HNP:=hd Mh.1;clear Zs PR Mh zs fs Zl VR hx' ag;clear yy0 Zp Zq yy3 yy4 yy5 yy6 yy7 yy8;have hP:=(SI.o).put (pU:=(fun q=>dL q\/X.heap.size<=q)) (M':= {M with f2:=(M.f2.set f ⟨fe.f0,fe.f1,l'⟩)}) (cs':= [.slice A0 M.f0.length c0,.slice A1 M.f1.length c1,.slice (some ⟨g,0,none⟩) ((M.f2.set f ⟨fe.f0,fe.f1,l'⟩)).length k9,.slice A3 M.f3.length c3,.slice A4 M.f4.length c4,.slice A5 M.f5.length c5,.slice A6 M.f6.length c6,.slice A7 M.f7.length c7]) 2 (.slice (some ⟨g,0,none⟩) ((M.f2.set f ⟨fe.f0,fe.f1,l'⟩)).length k9) rfl (fun W' hW=>wu ((SI.o).fk W' (fun q hq bI=>hW q (.inl hq) bI)) (by rw[List.length_set];exact(Kd.eN od.o).2.1) (Kd.J2 (show Kd.N fL 59 _ X.heap.size (fun q=>dL q\/X.heap.size<=q) (.slice (some ⟨g,0,none⟩) (M.f2.set f ⟨fe.f0,fe.f1,l'⟩).length k9) (M.f2.set f ⟨fe.f0,fe.f1,l'⟩)from by rw[List.length_set];exact HNP.o) W' (fun q hq bI=>hW q hq bI))) wA.o (by have sc:=HS.o.c;have ss:=HS.o.s;have sl:=HS.o.n2;exact HS.o.VO (by show(M.f2.set f ⟨fe.f0,fe.f1,l'⟩).length<=k+1;rw[List.length_set];omega) (by intro q hq;rcases List.mem_or_eq_of_mem_set hq with hq|rfl;have:=sc q hq;omega;have h:=sc fe IG.o;have:=K4.o.2;exact⟨by show fe.f1.length<=k+1;omega,by show l'.length<=1000000+(k+1);omega⟩));have zb:(World.setCell w' ⟨g,f*3+2,none⟩ (.slice A' l'.length c')).cell? ⟨w.heap.size,2,none⟩=some (.slice A2 M.f2.length c2):=(aa (SI.o).box 2).trans rfl;have fb:(World.setCell w' ⟨g,f*3+2,none⟩ (.slice A' l'.length c')).frozen? ⟨w.heap.size,2,none⟩=false:=ah (SI.o).box 2;rw[List.length_set]at hP;obtain⟨W1,M1,P0,n0,d0,P1,n1,d1,P2,n2,d2,P3,n3,d3,P4,n4,d4,P5,n5,d5,P6,n6,d6,P7,n7,d7,hw1,HO,⟨q0,q1,q2,q3,q4,q5,q6,q7⟩,⟨z0,z1,z2,z3,z4,z5,z6,z7⟩,k0,k1,k2,k3,k4,k5,k6,k7⟩:=fU.named hP
   go_wp2_with fail
   refine bodyPost_ret (v:=_) (by simp[results,results36,go_sem,z0,z1,z2,z3,z4,z5,z6,z7]<;>rfl) rfl ?_;exact HO.o.qb LW.o
  case' neg=>have cw:(t0.tmod 4 !=3)=false:=by simpa using cw
  have HFZ:=hd (show 0<M.f2.length->f<M.f2.length from fun _=>Eb.o);have UB:=hd (show 0<=M.f2.length from Nat.zero_le _)
 case' inl=>
  have hf0:M.f2.length=0:=by omega
  refine(rY t1 1 (by decide) (by decide) _).mono ?_;rintro e w'⟨⟨f,hf,rfl⟩,hw⟩;rw[hw];clear hw;have y0:X.cell? ⟨w.heap.size+1,0,none⟩=some (.int .i64 t0):=(aa Qq.o 0).trans rfl;have y1:X.cell? ⟨w.heap.size+1,1,none⟩=some (.int .i64 t1):=(aa Qq.o 1).trans rfl;have y2:X.cell? ⟨w.heap.size+1,2,none⟩=some (.int .i64 t2):=(aa Qq.o 2).trans rfl;have y3:X.cell? ⟨w.heap.size+1,3,none⟩=some (.int .u64 t3):=(aa Qq.o 3).trans rfl;have y4:X.cell? ⟨w.heap.size+1,4,none⟩=some (.int .i64 raw.f0):=(aa Qq.o 4).trans rfl;have y5:X.cell? ⟨w.heap.size+1,5,none⟩=some (.int .i64 raw.f1):=(aa Qq.o 5).trans rfl;have y6:X.cell? ⟨w.heap.size+1,6,none⟩=some (.int .i64 raw.f2):=(aa Qq.o 6).trans rfl;have y7:X.cell? ⟨w.heap.size+1,7,none⟩=some (.int .u64 raw.f3):=(aa Qq.o 7).trans rfl;have y8:X.cell? ⟨w.heap.size+1,8,none⟩=some (.slice AR raw.f4.length cR):=(aa Qq.o 8).trans rfl;obtain⟨m0,m1,m2,m3,m4,m5,m6,m7⟩:=c8 HA.o.box;have LW:=hd (show∀q,(dL q\/X.heap.size<=q)->dL q\/w.heap.size<=q from fun q hq=>hq.imp id (fun h=>cG (by have h:=HA.o.res;have:=aj h;omega) h));have Gf:=hd (show w.heap.size+3<=X.heap.size by have h:=HA.o.res;have:=aj h;omega);have wA:=hd (show∀q,(dL q\/X.heap.size<=q)->q≠w.heap.size/\q≠w.heap.size+1+1 from(fun q hq=>by have:=Gf.o;rcases hq with hq|hq;have:=ql.o q hq;constructor<;>omega;constructor<;>omega));have g1: ¬((M.f2.length:Int)>(f:Int)):=by omega
  have HFZ:=hd (show 0<M.f2.length->f<M.f2.length from fun h0=>by omega);have UB:=hd hf0;clear h hf hf0
 all_goals
  go_wp2_with fail
  clear g1;refine(nO t0 1048576 (by decide) (by decide) X).mono ?_;rintro e W9⟨⟨r,r0,r1,rfl⟩,hw⟩;rw[hw];clear hw;rcases(show r/4%9=8\/r/4%9=0\/r/4%9=6\/r/4%9=1\/r/4%9=2\/r/4%9=3\/r/4%9=4\/r/4%9=5\/r/4%9=7 by omega)with e|e|e|e|e|e|e|e|e
  ·skip
   by_cases hz:0<M.f2.length
   case' neg=>
    have gz: ¬((M.f2.length:Int)>0):=by omega
    have HO:=hd (HA.o.more (pU:=(fun q=>dL q\/X.heap.size<=q)) (HS.o.more (Nat.le_succ k)) (fun q hq=> .inl hq) wA.o);obtain⟨⟨z0,z1,z2,z3,z4,z5,z6,z7⟩,k0,k1,k2,k3,k4,k5,k6,k7⟩:=HO.o.tail
    go_wp2_with fail
    refine bodyPost_ret (v:=_) (by simp[results,results36,go_sem,z0,z1,z2,z3,z4,z5,z6,z7]<;>rfl) rfl ?_;exact HO.o.qb LW.o
   case' pos=>
    first|exact absurd hz (by have:=UB.o;omega)|skip
    all_goals
     have Eb:=hd (HFZ.o hz);have m2e:=ak (o:= .cells #[] 59) m2;have gD:=af (ay X.heap.size X) (.cells #[] 59);have HN:Hid (Kd.N fL 59 (X.alloc (.cells #[] 59)) X.heap.size (fun q=>dL q\/X.heap.size<=q) (.slice (some ⟨X.heap.size,0,none⟩) 0 0) []):=hd (qa (alloc_at rfl) (aU _) (fun k hk=> .inr hk));have PO:=hd (Kd.bS Md.o (az PN.o gD));have fK:=hd gD;have hbz:X.heap.size<=(X.alloc (.cells #[] 59)).heap.size:=by simp
     have IB:=hd (show∀q,dL q->(dL q\/X.heap.size<=q)/\some q≠(Value.slice (some ⟨X.heap.size,0,none⟩) 0 0).ownBlock from fun q hq=>⟨.inl hq,fun e=>by have:=Gf.o;have:=ql.o q hq;simp[Value.ownBlock]at e;omega⟩);have uT:(([]:List iB).length+M.f2.length)*56<=140737488355328:=by have:=HS.o.n2;have:=HK.o;simp;omega
     clear gD;have gz:((M.f2.length:Int)>0):=by omega
     go_wp2_with (first|(at_builtin;(refine Kd.gj fL (w0:=X) X.heap.size rfl (.tmp 57) (.tmp 59) 30 59 (.agg #[.int .i64 0,.slice none 0 0,.slice none 0 0]) 56 rfl underlying30 yg rfl (dG _) (dG _) (.slice (some ⟨X.heap.size,0,none⟩) 0 0) [] M.f2 A2 M.f2.length c2 (fun q=>dL q\/X.heap.size<=q) dL rfl rfl HN.o PO.o IB.o (fun q hq=> .inr (cG hbz hq)) fK.o hbz uT ?_);intro v9 w9 hR hB hG hat;have hR:Kd.N fL 59 w9 X.heap.size (fun q=>dL q\/X.heap.size<=q) v9 M.f2:=hR;obtain⟨g,k9,e9,Hz,-⟩:=Kd.yy hR (by have:=Eb.o;omega);subst e9;have DO:=(hB.block _ (aj Qq.o)).trans Qq.o;have xX:=hd Hz;have od:=hd hR;have iZ:=hd hB;have tu:=hd DO;clear hR hB hG hat uT hbz Hz DO;obtain⟨fe,B1,e1,B2,e2,hmem,hcc,hfr,b1,b2,TH,hF2⟩:=z8 od.o Eb.o;have z0:w9.cell? ⟨g,f*3,none⟩=some (.int .i64 fe.f0):=hcc 0 _ rfl;have fz:w9.frozen? ⟨g,f*3,none⟩=false:=hfr 0;have i0:(0:Int)<=(f:Int):=(by omega);have i1:(f:Int)<(M.f2.length:Int):=(by have:=Eb.o;omega);have i2:((f:Int)).toNat=f:=dF f;have Mh:=DT (j:=0) (u:= .int .i64 (bits .and .i64 t2 15)) (x:=⟨(bits .and .i64 t2 15),fe.f1,fe.f2⟩) (kK:=(fun q=>(dL q\/X.heap.size<=q)/\q≠g)) od.o Eb.o (c:= [.int .i64 fe.f0,.slice B1 fe.f1.length e1,.slice B2 fe.f2.length e2]) rfl hcc (by decide) rfl b1 b2 TH hF2 (fun q hq=>hq);have Zs:=HA.o.below iZ.o;have PR:fU w (World.setCell w9 ⟨g,f*3,none⟩ (.int .i64 (bits .and .i64 t2 15))) (w.heap.size) (w.heap.size+1+1) dL M [.slice A0 M.f0.length c0,.slice A1 M.f1.length c1,.slice A2 M.f2.length c2,.slice A3 M.f3.length c3,.slice A4 M.f4.length c4,.slice A5 M.f5.length c5,.slice A6 M.f6.length c6,.slice A7 M.f7.length c7] k:=Zs.grown Mh.2 (fun q hq=>by injection hq with hq;have:=xX.o;have:=Gf.o;subst hq;exact⟨by omega,by omega,fun h=>by have:=ql.o _ h;omega,by omega⟩);have hP:=(PR).put (pU:=(fun q=>dL q\/X.heap.size<=q)) (M':= {M with f2:=(M.f2.set f ⟨(bits .and .i64 t2 15),fe.f1,fe.f2⟩)}) (cs':= [.slice A0 M.f0.length c0,.slice A1 M.f1.length c1,.slice (some ⟨g,0,none⟩) ((M.f2.set f ⟨(bits .and .i64 t2 15),fe.f1,fe.f2⟩)).length k9,.slice A3 M.f3.length c3,.slice A4 M.f4.length c4,.slice A5 M.f5.length c5,.slice A6 M.f6.length c6,.slice A7 M.f7.length c7]) 2 (.slice (some ⟨g,0,none⟩) ((M.f2.set f ⟨(bits .and .i64 t2 15),fe.f1,fe.f2⟩)).length k9) rfl (fun W' hW=>wu ((PR).fk W' (fun q hq bI=>hW q (.inl hq) bI)) (by rw[List.length_set];exact(Kd.eN od.o).2.1) (Kd.J2 (show Kd.N fL 59 _ X.heap.size (fun q=>dL q\/X.heap.size<=q) (.slice (some ⟨g,0,none⟩) (M.f2.set f ⟨(bits .and .i64 t2 15),fe.f1,fe.f2⟩).length k9) (M.f2.set f ⟨(bits .and .i64 t2 15),fe.f1,fe.f2⟩)from by rw[List.length_set];exact Mh.1) W' (fun q hq bI=>hW q hq bI))) wA.o (by have sc:=HS.o.c;have ss:=HS.o.s;have sl:=HS.o.n2;exact HS.o.VO (by show(M.f2.set f ⟨(bits .and .i64 t2 15),fe.f1,fe.f2⟩).length<=k+1;rw[List.length_set];omega) (by intro q hq;rcases List.mem_or_eq_of_mem_set hq with hq|rfl;have:=sc q hq;omega;have h:=sc fe hmem;exact⟨by show fe.f1.length<=k+1;omega,by show fe.f2.length<=1000000+(k+1);omega⟩));have zb:(World.setCell w9 ⟨g,f*3,none⟩ (.int .i64 (bits .and .i64 t2 15))).cell? ⟨w.heap.size,2,none⟩=some (.slice A2 M.f2.length c2):=(aa (PR).box 2).trans rfl;have fb:(World.setCell w9 ⟨g,f*3,none⟩ (.int .i64 (bits .and .i64 t2 15))).frozen? ⟨w.heap.size,2,none⟩=false:=ah (PR).box 2;rw[List.length_set]at hP;obtain⟨W1,M1,P0,n0,d0,P1,n1,d1,P2,n2,d2,P3,n3,d3,P4,n4,d4,P5,n5,d5,P6,n6,d6,P7,n7,d7,hw1,HO,⟨q0,q1,q2,q3,q4,q5,q6,q7⟩,⟨z0,z1,z2,z3,z4,z5,z6,z7⟩,k0,k1,k2,k3,k4,k5,k6,k7⟩:=fU.named hP;clear Mh Zs PR hP hmem hcc hfr b1 b2 TH hF2))
     refine bodyPost_ret (v:=_) (by simp[results,results36,go_sem,z0,z1,z2,z3,z4,z5,z6,z7]<;>rfl) rfl ?_;exact HO.o.qb LW.o
  ·skip
   have m0e:=ak (o:= .cells #[] 40) m0;have gD:=af (ay X.heap.size X) (.cells #[] 40);have HN:Hid (Kd.N qo 40 (X.alloc (.cells #[] 40)) X.heap.size (fun q=>dL q\/X.heap.size<=q) (.slice (some ⟨X.heap.size,0,none⟩) 0 0) []):=hd (qa (alloc_at rfl) (aU _) (fun k hk=> .inr hk));have PO:=hd (Kd.bS HF0.o (az PN.o gD));have fK:=hd gD;have hbz:X.heap.size<=(X.alloc (.cells #[] 40)).heap.size:=by simp
   have IB:=hd (show∀q,dL q->(dL q\/X.heap.size<=q)/\some q≠(Value.slice (some ⟨X.heap.size,0,none⟩) 0 0).ownBlock from fun q hq=>⟨.inl hq,fun e=>by have:=Gf.o;have:=ql.o q hq;simp[Value.ownBlock]at e;omega⟩);have uT:(([]:List ig).length+M.f0.length)*48<=140737488355328:=by have:=HS.o.n0;have:=HK.o;simp;omega
   clear gD
   go_wp2_with (first|(at_builtin;(refine Kd.gj qo (w0:=X) X.heap.size rfl (.tmp 71) (.tmp 73) 28 40 (.agg #[.slice none 0 0,.slice none 0 0]) 48 rfl underlying28 PK rfl (dG _) (dG _) (.slice (some ⟨X.heap.size,0,none⟩) 0 0) [] M.f0 A0 M.f0.length c0 (fun q=>dL q\/X.heap.size<=q) dL rfl rfl HN.o PO.o IB.o (fun q hq=> .inr (cG hbz hq)) fK.o hbz uT ?_);intro v9 w9 hR hB hG hat;have hR:Kd.N qo 40 w9 X.heap.size (fun q=>dL q\/X.heap.size<=q) v9 M.f0:=hR;obtain⟨P9,k9,e9⟩:=Kd.cg hR;subst e9;have od:=hd hR;have iZ:=hd hB;clear hR hB hG hat uT hbz;have uV:Hid (Below X.heap.size X (w9.alloc (.cells #[.int .i64 t2] 3))):=hd (aA iZ.o iZ.o.size (by repeat (first|exact ay _ _|refine af ?_ _)));have HRL:Hid (Kd.N qo 40 (w9.alloc (.cells #[.int .i64 t2] 3)) X.heap.size (fun q=>dL q\/X.heap.size<=q) (.slice P9 M.f0.length k9) M.f0):=hd (Kd.oT od.o (by repeat (first|exact ay _ _|refine af ?_ _)));have sF:=hd uV.o.size;have VT:Hid (∀q,((w9.alloc (.cells #[.int .i64 t2] 3))).heap.size<=q->(dL q\/X.heap.size<=q)):=hd (fun q hq=> .inr (cG sF.o hq));have RZ:=hd (show(M.f0.length+1)*48<=140737488355328 by have:=HS.o.n0;have:=HK.o;omega);have Sz:=hd (show w9.heap.size+1=((w9.alloc (.cells #[.int .i64 t2] 3))).heap.size by simp))|(at_builtin;(refine Kd.tL qo (w0:=X) X.heap.size rfl (.tmp 74) (.tmp 78) 28 40 (.agg #[.slice none 0 0,.slice none 0 0]) 48 rfl underlying28 PK rfl (dG _) (dG _) (.slice P9 M.f0.length k9) M.f0 ⟨[t2],[]⟩ [.slice (some ⟨w9.heap.size,0,none⟩) 1 1,.slice none 0 0] (fun q=>dL q\/X.heap.size<=q) (fun q=>q=w9.heap.size) rfl (congrArg (fun n=>Value.slice (some ⟨n,0,none⟩) 1 1) Sz.o) (fun W' hW=>kU W' ⟨[t2],[]⟩ (aU 1) (pS (l:= [t2]) ((hW w9.heap.size rfl (aj (dh w9 _))).trans (dh w9 _)) (show 1<=9223372036854775807 by decide)) (aU 0) (Kd.iw _ _)) (fun q hq=>⟨.inr (cG iZ.o.size (Nat.le_of_eq hq.symm)),fun e=>(by(have h:=Kd.J1 od.o q e.symm;have hq:q=w9.heap.size:=hq;omega))⟩) VT.o HRL.o uV.o sF.o RZ.o ?_);intro v8 w8 hR hB hG hat;obtain⟨P8,k8,e8⟩:=Kd.cg hR;have hlen:(M.f0++ [(⟨[t2],[]⟩:ig)]).length=M.f0.length+1:=(by simp);rw[hlen]at e8;subst e8;have oI:=HA.o.below hB;have hP:=(oI).put (pU:=(fun q=>dL q\/X.heap.size<=q)) (M':= {M with f0:=(M.f0++ [(⟨[t2],[]⟩:ig)])}) (cs':= [.slice P8 ((M.f0++ [(⟨[t2],[]⟩:ig)])).length k8,.slice A1 M.f1.length c1,.slice A2 M.f2.length c2,.slice A3 M.f3.length c3,.slice A4 M.f4.length c4,.slice A5 M.f5.length c5,.slice A6 M.f6.length c6,.slice A7 M.f7.length c7]) 0 (.slice P8 ((M.f0++ [(⟨[t2],[]⟩:ig)])).length k8) rfl (fun W' hW=>LQ ((oI).fk W' (fun q hq bI=>hW q (.inl hq) bI)) (by rw[hlen];exact(Kd.eN hR).2.1) (Kd.J2 (show Kd.N qo 40 _ X.heap.size (fun q=>dL q\/X.heap.size<=q) (.slice P8 (M.f0++ [(⟨[t2],[]⟩:ig)]).length k8) (M.f0++ [(⟨[t2],[]⟩:ig)])from(by rw[hlen];exact hR)) W' (fun q hq bI=>hW q hq bI))) wA.o (by have sc:=HS.o.c;have ss:=HS.o.s;have sl:=HS.o.n0;exact HS.o.ad3 (by show(M.f0++ [(⟨[t2],[]⟩:ig)]).length<=k+1;simp;omega));have zb:w8.cell? ⟨w.heap.size,0,none⟩=some (.slice A0 M.f0.length c0):=(aa (oI).box 0).trans rfl;have fb:w8.frozen? ⟨w.heap.size,0,none⟩=false:=ah (oI).box 0;rw[hlen]at hP;obtain⟨W1,M1,P0,n0,d0,P1,n1,d1,P2,n2,d2,P3,n3,d3,P4,n4,d4,P5,n5,d5,P6,n6,d6,P7,n7,d7,hw1,HO,⟨q0,q1,q2,q3,q4,q5,q6,q7⟩,⟨z0,z1,z2,z3,z4,z5,z6,z7⟩,k0,k1,k2,k3,k4,k5,k6,k7⟩:=fU.named hP;clear hP oI;clear hR hB hG hat))
   refine bodyPost_ret (v:=_) (by simp[results,results36,go_sem,z0,z1,z2,z3,z4,z5,z6,z7]<;>rfl) rfl ?_;exact HO.o.qb LW.o
  ·skip
   have m1e:=ak (o:= .cells #[] 72) m1;have gD:=af (ay X.heap.size X) (.cells #[] 72);have HN:Hid (Kd.N j8 72 (X.alloc (.cells #[] 72)) X.heap.size (fun q=>dL q\/X.heap.size<=q) (.slice (some ⟨X.heap.size,0,none⟩) 0 0) []):=hd (qa (alloc_at rfl) (aU _) (fun k hk=> .inr hk));have PO:=hd (Kd.bS L4.o (az PN.o gD));have fK:=hd gD;have hbz:X.heap.size<=(X.alloc (.cells #[] 72)).heap.size:=by simp
   have IB:=hd (show∀q,dL q->(dL q\/X.heap.size<=q)/\some q≠(Value.slice (some ⟨X.heap.size,0,none⟩) 0 0).ownBlock from fun q hq=>⟨.inl hq,fun e=>by have:=Gf.o;have:=ql.o q hq;simp[Value.ownBlock]at e;omega⟩);have uT:(([]:List iX).length+M.f1.length)*40<=140737488355328:=by have:=HS.o.n1;have:=HK.o;simp;omega
   clear gD
   go_wp2_with (first|(at_builtin;(refine Kd.gj j8 (w0:=X) X.heap.size rfl (.tmp 172) (.tmp 174) 29 72 (.agg #[.string ⟨#[]⟩,.string ⟨#[]⟩,.int .i64 0]) 40 rfl underlying29 JR rfl (dG _) (dG _) (.slice (some ⟨X.heap.size,0,none⟩) 0 0) [] M.f1 A1 M.f1.length c1 (fun q=>dL q\/X.heap.size<=q) dL rfl rfl HN.o PO.o IB.o (fun q hq=> .inr (cG hbz hq)) fK.o hbz uT ?_);intro v9 w9 hR hB hG hat;have hR:Kd.N j8 72 w9 X.heap.size (fun q=>dL q\/X.heap.size<=q) v9 M.f1:=hR;obtain⟨P9,k9,e9⟩:=Kd.cg hR;subst e9;have od:=hd hR;have iZ:=hd hB;clear hR hB hG hat uT hbz;have uV:Hid (Below X.heap.size X w9):=hd (iZ.o);have HRL:Hid (Kd.N j8 72 w9 X.heap.size (fun q=>dL q\/X.heap.size<=q) (.slice P9 M.f1.length k9) M.f1):=hd (Kd.oT od.o (by repeat (first|exact ay _ _|refine af ?_ _)));have sF:=hd uV.o.size;have VT:Hid (∀q,(w9).heap.size<=q->(dL q\/X.heap.size<=q)):=hd (fun q hq=> .inr (cG sF.o hq));have RZ:=hd (show(M.f1.length+1)*40<=140737488355328 by have:=HS.o.n1;have:=HK.o;omega))|(at_builtin;(refine Kd.tL j8 (w0:=X) X.heap.size rfl (.tmp 175) (.tmp 179) 29 72 (.agg #[.string ⟨#[]⟩,.string ⟨#[]⟩,.int .i64 0]) 40 rfl underlying29 JR rfl (dG _) (dG _) (.slice P9 M.f1.length k9) M.f1 ⟨⟨#[]⟩,⟨#[111,100,100]⟩,(bits .and .i64 t2 15)⟩ [.string ⟨#[]⟩,.string ⟨#[111,100,100]⟩,.int .i64 (bits .and .i64 t2 15)] (fun q=>dL q\/X.heap.size<=q) (fun _=>False) rfl rfl (fun W' hW=>tQ W' ⟨⟨#[]⟩,⟨#[111,100,100]⟩,(bits .and .i64 t2 15)⟩) (fun _ hq=>hq.elim) VT.o HRL.o uV.o sF.o RZ.o ?_);intro v8 w8 hR hB hG hat;obtain⟨P8,k8,e8⟩:=Kd.cg hR;have hlen:(M.f1++ [(⟨⟨#[]⟩,⟨#[111,100,100]⟩,(bits .and .i64 t2 15)⟩:iX)]).length=M.f1.length+1:=(by simp);rw[hlen]at e8;subst e8;have oI:=HA.o.below hB;have hP:=(oI).put (pU:=(fun q=>dL q\/X.heap.size<=q)) (M':= {M with f1:=(M.f1++ [(⟨⟨#[]⟩,⟨#[111,100,100]⟩,(bits .and .i64 t2 15)⟩:iX)])}) (cs':= [.slice A0 M.f0.length c0,.slice P8 ((M.f1++ [(⟨⟨#[]⟩,⟨#[111,100,100]⟩,(bits .and .i64 t2 15)⟩:iX)])).length k8,.slice A2 M.f2.length c2,.slice A3 M.f3.length c3,.slice A4 M.f4.length c4,.slice A5 M.f5.length c5,.slice A6 M.f6.length c6,.slice A7 M.f7.length c7]) 1 (.slice P8 ((M.f1++ [(⟨⟨#[]⟩,⟨#[111,100,100]⟩,(bits .and .i64 t2 15)⟩:iX)])).length k8) rfl (fun W' hW=>LR ((oI).fk W' (fun q hq bI=>hW q (.inl hq) bI)) (by rw[hlen];exact(Kd.eN hR).2.1) (Kd.J2 (show Kd.N j8 72 _ X.heap.size (fun q=>dL q\/X.heap.size<=q) (.slice P8 (M.f1++ [(⟨⟨#[]⟩,⟨#[111,100,100]⟩,(bits .and .i64 t2 15)⟩:iX)]).length k8) (M.f1++ [(⟨⟨#[]⟩,⟨#[111,100,100]⟩,(bits .and .i64 t2 15)⟩:iX)])from(by rw[hlen];exact hR)) W' (fun q hq bI=>hW q hq bI))) wA.o (by have sc:=HS.o.c;have ss:=HS.o.s;have sl:=HS.o.n1;exact HS.o.ad4 (by show(M.f1++ [(⟨⟨#[]⟩,⟨#[111,100,100]⟩,(bits .and .i64 t2 15)⟩:iX)]).length<=k+1;simp;omega));have zb:w8.cell? ⟨w.heap.size,1,none⟩=some (.slice A1 M.f1.length c1):=(aa (oI).box 1).trans rfl;have fb:w8.frozen? ⟨w.heap.size,1,none⟩=false:=ah (oI).box 1;rw[hlen]at hP;obtain⟨W1,M1,P0,n0,d0,P1,n1,d1,P2,n2,d2,P3,n3,d3,P4,n4,d4,P5,n5,d5,P6,n6,d6,P7,n7,d7,hw1,HO,⟨q0,q1,q2,q3,q4,q5,q6,q7⟩,⟨z0,z1,z2,z3,z4,z5,z6,z7⟩,k0,k1,k2,k3,k4,k5,k6,k7⟩:=fU.named hP;clear hP oI;clear hR hB hG hat))
   refine bodyPost_ret (v:=_) (by simp[results,results36,go_sem,z0,z1,z2,z3,z4,z5,z6,z7]<;>rfl) rfl ?_;exact HO.o.qb LW.o
  ·skip
   go_wp2_with fail
   refine st 14 (fun w'=>w'.cell? ⟨w.heap.size,5,none⟩=some (.slice A5 M.f5.length c5)/\w'.cell? ⟨w.heap.size+1,1,none⟩=some (.int .i64 t1)) [13] ⟨m5,y1⟩ (fun ag=>?_);refine pu 1 84 ?_;refine tk 2 85 ag ?_;refine cZ 4 87 5 88 6 89 ?_;refine tk 7 90 ag ?_;refine pu2 8 91 9 92 ?_;have hb0:Below X.heap.size X X.drew:=aX (ay _ _);have hy0:X.drew.heap.size=X.heap.size:=rfl;have hf0:=(Kd.mS (Kd.bS HF5.o PN.o));generalize X.drew=Y0 at hb0 hy0 hf0 ag⊢;have cn:=hd hb0;have uU:=hd hy0;have Ag:=hd hf0;have Ah:=hd (show∀q,dL q->q<Y0.heap.size from fun q hq=>by have:=Gf.o;have:=ql.o q hq;have:=uU.o;omega);clear hb0 hy0 hf0;have pV:=hd ag;clear ag;have iU:=hd (show∀W,Below Y0.heap.size Y0 W->W.cell? ⟨w.heap.size,5,none⟩=some (.slice A5 M.f5.length c5)/\W.cell? ⟨w.heap.size+1,1,none⟩=some (.int .i64 t1)from fun W hb=>⟨(((hb).cell (aR Y0 _ pV.o.1)).trans pV.o.1),(((hb).cell (aR Y0 _ pV.o.2)).trans pV.o.2)⟩);apply dm (J:= ∀(Y:World) (be:Nat) (bb:Nat) (P8:Option Addr) (n8:Nat) (k8:Nat),((_:Prop))->((_:Prop))->((_:Prop))->(_:Prop))
   case' _=>
    intro J;have Gg:=hd J;clear J
   apply dm (J:= ∀(Y:World) (be:Nat) (P8:Option Addr) (n8:Nat) (k8:Nat),((_:Prop))->((_:Prop))->((_:Prop))->(_:Prop))
   case' _=>
    intro J;have PU:=hd J;clear J
   apply dm (J:= ∀(Y:World) (be:Nat) (bb:Nat),((_:Prop))->((_:Prop))->((_:Prop))->((_:Prop))->(_:Prop))
   case' _=>
    intro J;have Gh:=hd J;clear J
   apply dm (J:= ∀(Y:World) (be:Nat),((_:Prop))->((_:Prop))->((_:Prop))->((_:Prop))->(_:Prop))
   case' _=>
    intro J;have PV:=hd J;clear J
   apply dm (J:= ∀(Y:World) (bb:Nat),((_:Prop))->((_:Prop))->(_:Prop))
   case' _=>
    intro J;have PW:=hd J;clear J
   apply dm (J:= ∀(Y:World),(Hid (Bk Y0 Y []))->(Y.cell? ⟨w.heap.size,5,none⟩=some (.slice A5 M.f5.length c5)/\Y.cell? ⟨w.heap.size+1,1,none⟩=some (.int .i64 t1))->(_:Prop))
   case' _=>
    intro J;have PX:=hd J;clear J
   case' _=>
    have HQ:Hid (Bk Y0 Y0 []):=hd (Bk.start Y0);have ag:=pV.o;exact PX.o Y0 HQ ag
   case' _=>
    intro Y HQ ag;refine tw 0 10 (some 83) (some 93) (fun K hK=>?_) (fun K hK=>?_)
    ·rw[if_pos (by rfl)]
     go_simp
     have hk:=Bk.jr HQ.o (.cells #[] 86);have hr:=Bk.nil (d:=lW) (e:=86) (B0:=dL) HQ.o;refine hK.o _ _ (iU.o _ hk.bel) (fun ag=>?_);clear hK K;generalize gA:Y.alloc (.cells #[] 86)=Y1 at hk hr ag⊢;obtain⟨be,gD⟩:=ex Y.heap.size;rw[<-gD]at hr⊢;have fK:=hd (show Y0.heap.size<=be from gD▸HQ.o.bel.size);clear HQ gD gA;have HQ:=hd hk;have HP:=hd hr;clear hk hr
     try refine nm ?_
     exact PV.o Y1 be HQ HP fK ag
    ·rw[if_pos (by rfl)]
     go_simp
     have hk:=Bk.alloc HQ.o ((Gd t1 t2));refine hK.o _ _ (iU.o _ hk.bel) (fun ag=>?_);clear hK K;generalize gA:Y.alloc ((Gd t1 t2))=Y1 at hk ag⊢;obtain⟨bb,hb⟩:=ex Y.heap.size;rw[<-hb]at hk⊢;clear hb gA HQ;have HQ:=hd hk;clear hk
     try refine nm ?_
     exact PW.o Y1 bb HQ ag
   case' _=>
    intro Y bb HQ ag;refine on 0 (some 83) (fun K hK=>?_);rw[if_pos (by rfl)]
    go_simp
    have hk:=Bk.jr HQ.o (.cells #[] 86);have hr:=Bk.nil (d:=lW) (e:=86) (B0:=dL) HQ.o;refine hK.o _ _ (iU.o _ hk.bel) (fun ag=>?_);clear hK K;generalize gA:Y.alloc (.cells #[] 86)=Y1 at hk hr ag⊢;obtain⟨be,gD⟩:=ex Y.heap.size;rw[<-gD]at hr⊢;have fK:=hd (show Y0.heap.size<=be from gD▸HQ.o.bel.size);clear HQ gD gA;have HQ:=hd hk;have HP:=hd hr;clear hk hr
    try refine nm ?_
    exact Gh.o Y1 be bb HQ HP fK ag
   case' _=>
    intro Y be HQ HP fK ag;refine tw 3 10 (some 86) (some 93) (fun K hK=>?_) (fun K hK=>?_)
    ·refine Kd.aH lW (w0:=Y0) (W:=Y) Y0.heap.size (by rfl) (.tmp 83) (.tmp 85) 33 86 (.agg #[.string ⟨#[]⟩,.int .i64 0,.int .i64 0]) 32 (by rfl) underlying33 rX rfl (by decide) (by decide) (.slice (some ⟨be,0,none⟩) 0 0) [] M.f5 A5 M.f5.length c5 _ dL (by rfl) (by rfl) HP.o (Kd.bS Ag.o HQ.o.bel) (HQ.o.old HP.o Ah.o fK.o) HQ.o.fresh HQ.o.bel HQ.o.bel.size (by have:=HS.o.n5;have:=HK.o;simp;omega) ?_
     intro v8 Y1 hR hB hG hat;obtain⟨P8,k8,e8⟩:=Kd.cg hR;have hk:=Bk.grown HQ.o hB HP.o hG;clear HP HQ hG hat hB fK;generalize ([]++M.f5).length=n8 at e8;subst e8;refine hK.o (Act.put _ (some 86) _) _ (iU.o _ hk.bel) (fun ag=>?_);clear hK K;have HQ:=hd hk;have HP:=hd hR;clear hk hR
     try refine nm ?_
     exact PU.o Y1 be P8 n8 k8 HQ HP ag
    ·rw[if_pos (by rfl)]
     go_simp
     have hk:=Bk.alloc HQ.o ((Gd t1 t2));have hr:=nE.alloc HP.o ((Gd t1 t2));refine hK.o _ _ (iU.o _ hk.bel) (fun ag=>?_);clear hK K;generalize gA:Y.alloc ((Gd t1 t2))=Y1 at hk hr ag⊢;obtain⟨bb,hb⟩:=ex Y.heap.size;rw[<-hb]at hk hr⊢;clear hb gA HQ HP;have HQ:=hd hk;have HP:=hd hr;clear hk hr
     try refine nm ?_
     exact Gh.o Y1 be bb HQ HP fK ag
   case' _=>
    intro Y be bb HQ HP fK ag;refine on 3 (some 86) (fun K hK=>?_);refine Kd.aH lW (w0:=Y0) (W:=Y) Y0.heap.size (by rfl) (.tmp 83) (.tmp 85) 33 86 (.agg #[.string ⟨#[]⟩,.int .i64 0,.int .i64 0]) 32 (by rfl) underlying33 rX rfl (by decide) (by decide) (.slice (some ⟨be,0,none⟩) 0 0) [] M.f5 A5 M.f5.length c5 _ dL (by rfl) (by rfl) HP.o (Kd.bS Ag.o HQ.o.bel) (HQ.o.old HP.o Ah.o fK.o) HQ.o.fresh HQ.o.bel HQ.o.bel.size (by have:=HS.o.n5;have:=HK.o;simp;omega) ?_;intro v8 Y1 hR hB hG hat;obtain⟨P8,k8,e8⟩:=Kd.cg hR;have hk:=Bk.grown HQ.o hB HP.o hG;clear HP HQ hG hat hB fK;generalize ([]++M.f5).length=n8 at e8;subst e8;refine hK.o (Act.put _ (some 86) _) _ (iU.o _ hk.bel) (fun ag=>?_);clear hK K;have HQ:=hd hk;have HP:=hd hR;clear hk hR
    try refine nm ?_
    exact Gg.o Y1 be bb P8 n8 k8 HQ HP ag
   case' _=>
    intro Y be P8 n8 k8 HQ HP ag;refine on 10 (some 93) (fun K hK=>?_);rw[if_pos (by rfl)]
    go_simp
    have hk:=Bk.alloc HQ.o ((Gd t1 t2));have hr:=nE.alloc HP.o ((Gd t1 t2));refine hK.o _ _ (iU.o _ hk.bel) (fun ag=>?_);clear hK K;generalize gA:Y.alloc ((Gd t1 t2))=Y1 at hk hr ag⊢;obtain⟨bb,hb⟩:=ex Y.heap.size;rw[<-hb]at hk hr⊢;clear hb gA HQ HP;have HQ:=hd hk;have HP:=hd hr;clear hk hr
    try refine nm ?_
    exact Gg.o Y1 be bb P8 n8 k8 HQ HP ag
   intro Y be bb P8 n8 k8 HQ HP ag;have hq:=HQ.o;have hp:=HP.o;have F0:=hd (hq.blk _ (jy));have N0:=hd (nE.own hp _ (jy));clear hq hp;refine on 11 (some 94) (fun K hK=>?_);refine Kd.aH lW (w0:=Y0) (W:=Y) Y0.heap.size (by rfl) (.tmp 86) (.tmp 93) 33 86 (.agg #[.string ⟨#[]⟩,.int .i64 0,.int .i64 0]) 32 (by rfl) underlying33 rX rfl (by decide) (by decide) (.slice P8 n8 k8) M.f5 [⟨⟨#[111,100,100]⟩,(bits .and .i64 t2 3),(bits .and .i64 t1 15)⟩] (some ⟨bb,0,none⟩) 1 1 (fun q=>dL q\/X.heap.size<=q) (fun q=>q=bb) (by rfl) (by rfl) (Kd.mU HP.o (fun q hq=>hq.1.imp id (fun h=>by have:=uU.o;omega))) (fun W' hW=>oB (cells:= [.string ⟨#[111,100,100]⟩,.int .i64 (bits .and .i64 t2 3),.int .i64 (bits .and .i64 t1 15)]) (xs:= [(⟨⟨#[111,100,100]⟩,(bits .and .i64 t2 3),(bits .and .i64 t1 15)⟩:jg)]) ((hW bb rfl (aj F0.o.2)).trans F0.o.2) ((dU.none _ _).snoc (QF W' ⟨⟨#[111,100,100]⟩,(bits .and .i64 t2 3),(bits .and .i64 t1 15)⟩) rfl) (show 1<=9223372036854775807 by decide)) (fun q hq=>by obtain rfl:=hq;exact⟨.inr (by have:=F0.o.1;have:=uU.o;omega),N0.o⟩) (fun q hq=> .inr (by have:=HQ.o.bel.size;have:=uU.o;omega)) HQ.o.bel HQ.o.bel.size (by have:=HS.o.n5;have:=HK.o;simp;omega) ?_;intro Zt wS mI qm LZ Cr;obtain⟨xz,wT,DJ⟩:=Kd.cg mI;have hlen:(M.f5++ [(⟨⟨#[111,100,100]⟩,(bits .and .i64 t2 3),(bits .and .i64 t1 15)⟩:jg)]).length=M.f5.length+1:=by simp
   rw[hlen]at DJ;subst DJ;have DU:Below X.heap.size X wS:=az cn.o qm;refine hK.o (Act.put _ (some 94) _) _ (iU.o _ qm) (fun ag=>?_);clear hK K;refine nm ?_;have oI:=HA.o.below DU;have hP:=(oI).put (pU:=(fun q=>dL q\/X.heap.size<=q)) (M':= {M with f5:=(M.f5++ [(⟨⟨#[111,100,100]⟩,(bits .and .i64 t2 3),(bits .and .i64 t1 15)⟩:jg)])}) (cs':= [.slice A0 M.f0.length c0,.slice A1 M.f1.length c1,.slice A2 M.f2.length c2,.slice A3 M.f3.length c3,.slice A4 M.f4.length c4,.slice xz ((M.f5++ [(⟨⟨#[111,100,100]⟩,(bits .and .i64 t2 3),(bits .and .i64 t1 15)⟩:jg)])).length wT,.slice A6 M.f6.length c6,.slice A7 M.f7.length c7]) 5 (.slice xz ((M.f5++ [(⟨⟨#[111,100,100]⟩,(bits .and .i64 t2 3),(bits .and .i64 t1 15)⟩:jg)])).length wT) rfl (fun W' hW=>Cp ((oI).fk W' (fun q hq bI=>hW q (.inl hq) bI)) (by rw[hlen];exact(Kd.eN mI).2.1) (Kd.J2 (show Kd.N lW 86 _ Y0.heap.size (fun q=>dL q\/X.heap.size<=q) (.slice xz (M.f5++ [(⟨⟨#[111,100,100]⟩,(bits .and .i64 t2 3),(bits .and .i64 t1 15)⟩:jg)]).length wT) (M.f5++ [(⟨⟨#[111,100,100]⟩,(bits .and .i64 t2 3),(bits .and .i64 t1 15)⟩:jg)])from(by rw[hlen];exact mI)) W' (fun q hq bI=>hW q hq bI))) wA.o (by have sc:=HS.o.c;have ss:=HS.o.s;have sl:=HS.o.n5;exact HS.o.ad7 (by show(M.f5++ [(⟨⟨#[111,100,100]⟩,(bits .and .i64 t2 3),(bits .and .i64 t1 15)⟩:jg)]).length<=k+1;simp;omega) (by intro q hq;rcases List.mem_append.1 hq with hq|hq;exact ss q hq;rw[List.mem_singleton.1 hq];exact(show(⟨#[111,100,100]⟩:ByteArray).size<=100 by decide)));have zb:wS.cell? ⟨w.heap.size,5,none⟩=some (.slice A5 M.f5.length c5):=(aa (oI).box 5).trans rfl;have fb:wS.frozen? ⟨w.heap.size,5,none⟩=false:=ah (oI).box 5;rw[hlen]at hP;refine pu 12 95 ?_;refine la 13 ?_;refine dn ?_;obtain⟨W1,M1,P0,n0,d0,P1,n1,d1,P2,n2,d2,P3,n3,d3,P4,n4,d4,P5,n5,d5,P6,n6,d6,P7,n7,d7,hw1,HO,⟨q0,q1,q2,q3,q4,q5,q6,q7⟩,⟨z0,z1,z2,z3,z4,z5,z6,z7⟩,k0,k1,k2,k3,k4,k5,k6,k7⟩:=fU.named hP;rw[hw1];clear hw1;clear hP oI zb fb
   go_wp2_with fail
   refine bodyPost_ret (v:=_) (by simp[results,results36,go_sem,z0,z1,z2,z3,z4,z5,z6,z7]<;>rfl) rfl ?_;exact HO.o.qb LW.o
  ·skip
   go_wp2_with fail
   refine st 14 (fun w'=>w'.cell? ⟨w.heap.size,3,none⟩=some (.slice A3 M.f3.length c3)/\w'.cell? ⟨w.heap.size+1,1,none⟩=some (.int .i64 t1)) [13] ⟨m3,y1⟩ (fun ag=>?_);refine pu 1 99 ?_;refine tk 2 100 ag ?_;refine cZ 4 102 5 103 6 104 ?_;refine tk 7 105 ag ?_;refine pu2 8 106 9 107 ?_;have hb0:Below X.heap.size X X.drew:=aX (ay _ _);have hy0:X.drew.heap.size=X.heap.size:=rfl;have hf0:=(Kd.mS (Kd.bS HF3.o PN.o));generalize X.drew=Y0 at hb0 hy0 hf0 ag⊢;have cn:=hd hb0;have uU:=hd hy0;have Ag:=hd hf0;have Ah:=hd (show∀q,dL q->q<Y0.heap.size from fun q hq=>by have:=Gf.o;have:=ql.o q hq;have:=uU.o;omega);clear hb0 hy0 hf0;have pV:=hd ag;clear ag;have iU:=hd (show∀W,Below Y0.heap.size Y0 W->W.cell? ⟨w.heap.size,3,none⟩=some (.slice A3 M.f3.length c3)/\W.cell? ⟨w.heap.size+1,1,none⟩=some (.int .i64 t1)from fun W hb=>⟨(((hb).cell (aR Y0 _ pV.o.1)).trans pV.o.1),(((hb).cell (aR Y0 _ pV.o.2)).trans pV.o.2)⟩);apply dm (J:= ∀(Y:World) (be:Nat) (bb:Nat) (P8:Option Addr) (n8:Nat) (k8:Nat),((_:Prop))->((_:Prop))->((_:Prop))->(_:Prop))
   case' _=>
    intro J;have Gg:=hd J;clear J
   apply dm (J:= ∀(Y:World) (be:Nat) (P8:Option Addr) (n8:Nat) (k8:Nat),((_:Prop))->((_:Prop))->((_:Prop))->(_:Prop))
   case' _=>
    intro J;have PU:=hd J;clear J
   apply dm (J:= ∀(Y:World) (be:Nat) (bb:Nat),((_:Prop))->((_:Prop))->((_:Prop))->((_:Prop))->(_:Prop))
   case' _=>
    intro J;have Gh:=hd J;clear J
   apply dm (J:= ∀(Y:World) (be:Nat),((_:Prop))->((_:Prop))->((_:Prop))->((_:Prop))->(_:Prop))
   case' _=>
    intro J;have PV:=hd J;clear J
   apply dm (J:= ∀(Y:World) (bb:Nat),((_:Prop))->((_:Prop))->(_:Prop))
   case' _=>
    intro J;have PW:=hd J;clear J
   apply dm (J:= ∀(Y:World),(Hid (Bk Y0 Y []))->(Y.cell? ⟨w.heap.size,3,none⟩=some (.slice A3 M.f3.length c3)/\Y.cell? ⟨w.heap.size+1,1,none⟩=some (.int .i64 t1))->(_:Prop))
   case' _=>
    intro J;have PX:=hd J;clear J
   case' _=>
    have HQ:Hid (Bk Y0 Y0 []):=hd (Bk.start Y0);have ag:=pV.o;exact PX.o Y0 HQ ag
   case' _=>
    intro Y HQ ag;refine tw 0 10 (some 98) (some 108) (fun K hK=>?_) (fun K hK=>?_)
    ·rw[if_pos (by rfl)]
     go_simp
     have hk:=Bk.jr HQ.o (.cells #[] 74);have hr:=Bk.nil (d:=jQ) (e:=74) (B0:=dL) HQ.o;refine hK.o _ _ (iU.o _ hk.bel) (fun ag=>?_);clear hK K;generalize gA:Y.alloc (.cells #[] 74)=Y1 at hk hr ag⊢;obtain⟨be,gD⟩:=ex Y.heap.size;rw[<-gD]at hr⊢;have fK:=hd (show Y0.heap.size<=be from gD▸HQ.o.bel.size);clear HQ gD gA;have HQ:=hd hk;have HP:=hd hr;clear hk hr
     try refine nm ?_
     exact PV.o Y1 be HQ HP fK ag
    ·rw[if_pos (by rfl)]
     go_simp
     have hk:=Bk.alloc HQ.o ((.cells #[.int .i64 (bits .and .i64 t2 7),.int .i64 (bits .and .i64 t1 7)] 74));refine hK.o _ _ (iU.o _ hk.bel) (fun ag=>?_);clear hK K;generalize gA:Y.alloc ((.cells #[.int .i64 (bits .and .i64 t2 7),.int .i64 (bits .and .i64 t1 7)] 74))=Y1 at hk ag⊢;obtain⟨bb,hb⟩:=ex Y.heap.size;rw[<-hb]at hk⊢;clear hb gA HQ;have HQ:=hd hk;clear hk
     try refine nm ?_
     exact PW.o Y1 bb HQ ag
   case' _=>
    intro Y bb HQ ag;refine on 0 (some 98) (fun K hK=>?_);rw[if_pos (by rfl)]
    go_simp
    have hk:=Bk.jr HQ.o (.cells #[] 74);have hr:=Bk.nil (d:=jQ) (e:=74) (B0:=dL) HQ.o;refine hK.o _ _ (iU.o _ hk.bel) (fun ag=>?_);clear hK K;generalize gA:Y.alloc (.cells #[] 74)=Y1 at hk hr ag⊢;obtain⟨be,gD⟩:=ex Y.heap.size;rw[<-gD]at hr⊢;have fK:=hd (show Y0.heap.size<=be from gD▸HQ.o.bel.size);clear HQ gD gA;have HQ:=hd hk;have HP:=hd hr;clear hk hr
    try refine nm ?_
    exact Gh.o Y1 be bb HQ HP fK ag
   case' _=>
    intro Y be HQ HP fK ag;refine tw 3 10 (some 101) (some 108) (fun K hK=>?_) (fun K hK=>?_)
    ·refine Kd.aH jQ (w0:=Y0) (W:=Y) Y0.heap.size (by rfl) (.tmp 98) (.tmp 100) 31 74 (.agg #[.int .i64 0,.int .i64 0]) 16 (by rfl) underlying31 yf rfl (by decide) (by decide) (.slice (some ⟨be,0,none⟩) 0 0) [] M.f3 A3 M.f3.length c3 _ dL (by rfl) (by rfl) HP.o (Kd.bS Ag.o HQ.o.bel) (HQ.o.old HP.o Ah.o fK.o) HQ.o.fresh HQ.o.bel HQ.o.bel.size (by have:=HS.o.n3;have:=HK.o;simp;omega) ?_
     intro v8 Y1 hR hB hG hat;obtain⟨P8,k8,e8⟩:=Kd.cg hR;have hk:=Bk.grown HQ.o hB HP.o hG;clear HP HQ hG hat hB fK;generalize ([]++M.f3).length=n8 at e8;subst e8;refine hK.o (Act.put _ (some 101) _) _ (iU.o _ hk.bel) (fun ag=>?_);clear hK K;have HQ:=hd hk;have HP:=hd hR;clear hk hR
     try refine nm ?_
     exact PU.o Y1 be P8 n8 k8 HQ HP ag
    ·rw[if_pos (by rfl)]
     go_simp
     have hk:=Bk.alloc HQ.o ((.cells #[.int .i64 (bits .and .i64 t2 7),.int .i64 (bits .and .i64 t1 7)] 74));have hr:=nE.alloc HP.o ((.cells #[.int .i64 (bits .and .i64 t2 7),.int .i64 (bits .and .i64 t1 7)] 74));refine hK.o _ _ (iU.o _ hk.bel) (fun ag=>?_);clear hK K;generalize gA:Y.alloc ((.cells #[.int .i64 (bits .and .i64 t2 7),.int .i64 (bits .and .i64 t1 7)] 74))=Y1 at hk hr ag⊢;obtain⟨bb,hb⟩:=ex Y.heap.size;rw[<-hb]at hk hr⊢;clear hb gA HQ HP;have HQ:=hd hk;have HP:=hd hr;clear hk hr
     try refine nm ?_
     exact Gh.o Y1 be bb HQ HP fK ag
   case' _=>
    intro Y be bb HQ HP fK ag;refine on 3 (some 101) (fun K hK=>?_);refine Kd.aH jQ (w0:=Y0) (W:=Y) Y0.heap.size (by rfl) (.tmp 98) (.tmp 100) 31 74 (.agg #[.int .i64 0,.int .i64 0]) 16 (by rfl) underlying31 yf rfl (by decide) (by decide) (.slice (some ⟨be,0,none⟩) 0 0) [] M.f3 A3 M.f3.length c3 _ dL (by rfl) (by rfl) HP.o (Kd.bS Ag.o HQ.o.bel) (HQ.o.old HP.o Ah.o fK.o) HQ.o.fresh HQ.o.bel HQ.o.bel.size (by have:=HS.o.n3;have:=HK.o;simp;omega) ?_;intro v8 Y1 hR hB hG hat;obtain⟨P8,k8,e8⟩:=Kd.cg hR;have hk:=Bk.grown HQ.o hB HP.o hG;clear HP HQ hG hat hB fK;generalize ([]++M.f3).length=n8 at e8;subst e8;refine hK.o (Act.put _ (some 101) _) _ (iU.o _ hk.bel) (fun ag=>?_);clear hK K;have HQ:=hd hk;have HP:=hd hR;clear hk hR
    try refine nm ?_
    exact Gg.o Y1 be bb P8 n8 k8 HQ HP ag
   case' _=>
    intro Y be P8 n8 k8 HQ HP ag;refine on 10 (some 108) (fun K hK=>?_);rw[if_pos (by rfl)]
    go_simp
    have hk:=Bk.alloc HQ.o ((.cells #[.int .i64 (bits .and .i64 t2 7),.int .i64 (bits .and .i64 t1 7)] 74));have hr:=nE.alloc HP.o ((.cells #[.int .i64 (bits .and .i64 t2 7),.int .i64 (bits .and .i64 t1 7)] 74));refine hK.o _ _ (iU.o _ hk.bel) (fun ag=>?_);clear hK K;generalize gA:Y.alloc ((.cells #[.int .i64 (bits .and .i64 t2 7),.int .i64 (bits .and .i64 t1 7)] 74))=Y1 at hk hr ag⊢;obtain⟨bb,hb⟩:=ex Y.heap.size;rw[<-hb]at hk hr⊢;clear hb gA HQ HP;have HQ:=hd hk;have HP:=hd hr;clear hk hr
    try refine nm ?_
    exact Gg.o Y1 be bb P8 n8 k8 HQ HP ag
   intro Y be bb P8 n8 k8 HQ HP ag;have hq:=HQ.o;have hp:=HP.o;have F0:=hd (hq.blk _ (jy));have N0:=hd (nE.own hp _ (jy));clear hq hp;refine on 11 (some 109) (fun K hK=>?_);refine Kd.aH jQ (w0:=Y0) (W:=Y) Y0.heap.size (by rfl) (.tmp 101) (.tmp 108) 31 74 (.agg #[.int .i64 0,.int .i64 0]) 16 (by rfl) underlying31 yf rfl (by decide) (by decide) (.slice P8 n8 k8) M.f3 [⟨(bits .and .i64 t2 7),(bits .and .i64 t1 7)⟩] (some ⟨bb,0,none⟩) 1 1 (fun q=>dL q\/X.heap.size<=q) (fun q=>q=bb) (by rfl) (by rfl) (Kd.mU HP.o (fun q hq=>hq.1.imp id (fun h=>by have:=uU.o;omega))) (fun W' hW=>oB (cells:= [.int .i64 (bits .and .i64 t2 7),.int .i64 (bits .and .i64 t1 7)]) (xs:= [(⟨(bits .and .i64 t2 7),(bits .and .i64 t1 7)⟩:jw)]) ((hW bb rfl (aj F0.o.2)).trans F0.o.2) ((dU.none _ _).snoc (CE W' ⟨(bits .and .i64 t2 7),(bits .and .i64 t1 7)⟩) rfl) (show 1<=9223372036854775807 by decide)) (fun q hq=>by obtain rfl:=hq;exact⟨.inr (by have:=F0.o.1;have:=uU.o;omega),N0.o⟩) (fun q hq=> .inr (by have:=HQ.o.bel.size;have:=uU.o;omega)) HQ.o.bel HQ.o.bel.size (by have:=HS.o.n3;have:=HK.o;simp;omega) ?_;intro Zt wS mI qm LZ Cr;obtain⟨xz,wT,DJ⟩:=Kd.cg mI;have hlen:(M.f3++ [(⟨(bits .and .i64 t2 7),(bits .and .i64 t1 7)⟩:jw)]).length=M.f3.length+1:=by simp
   rw[hlen]at DJ;subst DJ;have DU:Below X.heap.size X wS:=az cn.o qm;refine hK.o (Act.put _ (some 109) _) _ (iU.o _ qm) (fun ag=>?_);clear hK K;refine nm ?_;have oI:=HA.o.below DU;have hP:=(oI).put (pU:=(fun q=>dL q\/X.heap.size<=q)) (M':= {M with f3:=(M.f3++ [(⟨(bits .and .i64 t2 7),(bits .and .i64 t1 7)⟩:jw)])}) (cs':= [.slice A0 M.f0.length c0,.slice A1 M.f1.length c1,.slice A2 M.f2.length c2,.slice xz ((M.f3++ [(⟨(bits .and .i64 t2 7),(bits .and .i64 t1 7)⟩:jw)])).length wT,.slice A4 M.f4.length c4,.slice A5 M.f5.length c5,.slice A6 M.f6.length c6,.slice A7 M.f7.length c7]) 3 (.slice xz ((M.f3++ [(⟨(bits .and .i64 t2 7),(bits .and .i64 t1 7)⟩:jw)])).length wT) rfl (fun W' hW=>LS ((oI).fk W' (fun q hq bI=>hW q (.inl hq) bI)) (by rw[hlen];exact(Kd.eN mI).2.1) (Kd.J2 (show Kd.N jQ 74 _ Y0.heap.size (fun q=>dL q\/X.heap.size<=q) (.slice xz (M.f3++ [(⟨(bits .and .i64 t2 7),(bits .and .i64 t1 7)⟩:jw)]).length wT) (M.f3++ [(⟨(bits .and .i64 t2 7),(bits .and .i64 t1 7)⟩:jw)])from(by rw[hlen];exact mI)) W' (fun q hq bI=>hW q hq bI))) wA.o (by have sc:=HS.o.c;have ss:=HS.o.s;have sl:=HS.o.n3;exact HS.o.ad5 (by show(M.f3++ [(⟨(bits .and .i64 t2 7),(bits .and .i64 t1 7)⟩:jw)]).length<=k+1;simp;omega));have zb:wS.cell? ⟨w.heap.size,3,none⟩=some (.slice A3 M.f3.length c3):=(aa (oI).box 3).trans rfl;have fb:wS.frozen? ⟨w.heap.size,3,none⟩=false:=ah (oI).box 3;rw[hlen]at hP;refine pu 12 110 ?_;refine la 13 ?_;refine dn ?_;obtain⟨W1,M1,P0,n0,d0,P1,n1,d1,P2,n2,d2,P3,n3,d3,P4,n4,d4,P5,n5,d5,P6,n6,d6,P7,n7,d7,hw1,HO,⟨q0,q1,q2,q3,q4,q5,q6,q7⟩,⟨z0,z1,z2,z3,z4,z5,z6,z7⟩,k0,k1,k2,k3,k4,k5,k6,k7⟩:=fU.named hP;rw[hw1];clear hw1;clear hP oI zb fb
   go_wp2_with fail
   refine bodyPost_ret (v:=_) (by simp[results,results36,go_sem,z0,z1,z2,z3,z4,z5,z6,z7]<;>rfl) rfl ?_;exact HO.o.qb LW.o
  ·skip
   go_wp2_with fail
   refine st 20 (fun w'=>w'.cell? ⟨w.heap.size,6,none⟩=some (.slice A6 M.f6.length c6)/\w'.cell? ⟨w.heap.size+1,1,none⟩=some (.int .i64 t1)) [19] ⟨m6,y1⟩ (fun ag=>?_);refine pu 1 114 ?_;refine tk 2 115 ag ?_;refine pu 4 117 ?_;refine tk 5 118 ag ?_;refine cZ 6 119 7 120 8 121 ?_;refine pu2 9 122 10 123 ?_;refine tk 11 124 ag ?_;refine pu 12 125 ?_;have hb0:Below X.heap.size X X.drew:=aX (ay _ _);have hy0:X.drew.heap.size=X.heap.size:=rfl;have hf0:=(Kd.mS (Kd.bS HF6.o PN.o));generalize X.drew=Y0 at hb0 hy0 hf0 ag⊢;have cn:=hd hb0;have uU:=hd hy0;have Ag:=hd hf0;have Ah:=hd (show∀q,dL q->q<Y0.heap.size from fun q hq=>by have:=Gf.o;have:=ql.o q hq;have:=uU.o;omega);clear hb0 hy0 hf0;have pV:=hd ag;clear ag;have iU:=hd (show∀W,Below Y0.heap.size Y0 W->W.cell? ⟨w.heap.size,6,none⟩=some (.slice A6 M.f6.length c6)/\W.cell? ⟨w.heap.size+1,1,none⟩=some (.int .i64 t1)from fun W hb=>⟨(((hb).cell (aR Y0 _ pV.o.1)).trans pV.o.1),(((hb).cell (aR Y0 _ pV.o.2)).trans pV.o.2)⟩);apply dm (J:= ∀(Y:World) (be:Nat) (bi:Nat) (bb:Nat) (P8:Option Addr) (n8:Nat) (k8:Nat),((_:Prop))->((_:Prop))->((_:Prop))->(_:Prop))
   case' _=>
    intro J;have TI:=hd J;clear J
   apply dm (J:= ∀(Y:World) (be:Nat) (bi:Nat) (P8:Option Addr) (n8:Nat) (k8:Nat),((_:Prop))->((_:Prop))->((_:Prop))->(_:Prop))
   case' _=>
    intro J;have Qr:=hd J;clear J
   apply dm (J:= ∀(Y:World) (be:Nat) (bi:Nat) (bb:Nat),((_:Prop))->((_:Prop))->((_:Prop))->((_:Prop))->(_:Prop))
   case' _=>
    intro J;have Zu:=hd J;clear J
   apply dm (J:= ∀(Y:World) (be:Nat) (bi:Nat) (P8:Option Addr) (n8:Nat) (k8:Nat),((_:Prop))->((_:Prop))->((_:Prop))->(_:Prop))
   case' _=>
    intro J;have Gg:=hd J;clear J
   apply dm (J:= ∀(Y:World) (be:Nat) (bi:Nat),((_:Prop))->((_:Prop))->((_:Prop))->((_:Prop))->(_:Prop))
   case' _=>
    intro J;have TJ:=hd J;clear J
   apply dm (J:= ∀(Y:World) (bi:Nat) (bb:Nat),((_:Prop))->((_:Prop))->(_:Prop))
   case' _=>
    intro J;have J03:=hd J;clear J
   apply dm (J:= ∀(Y:World) (be:Nat) (P8:Option Addr) (n8:Nat) (k8:Nat),((_:Prop))->((_:Prop))->((_:Prop))->(_:Prop))
   case' _=>
    intro J;have PU:=hd J;clear J
   apply dm (J:= ∀(Y:World) (be:Nat) (bi:Nat),((_:Prop))->((_:Prop))->((_:Prop))->((_:Prop))->(_:Prop))
   case' _=>
    intro J;have Gh:=hd J;clear J
   apply dm (J:= ∀(Y:World) (bi:Nat),((_:Prop))->((_:Prop))->(_:Prop))
   case' _=>
    intro J;have Zv:=hd J;clear J
   apply dm (J:= ∀(Y:World) (be:Nat),((_:Prop))->((_:Prop))->((_:Prop))->((_:Prop))->(_:Prop))
   case' _=>
    intro J;have PV:=hd J;clear J
   apply dm (J:= ∀(Y:World) (bi:Nat),((_:Prop))->((_:Prop))->(_:Prop))
   case' _=>
    intro J;have PW:=hd J;clear J
   apply dm (J:= ∀(Y:World),(Hid (Bk Y0 Y []))->(Y.cell? ⟨w.heap.size,6,none⟩=some (.slice A6 M.f6.length c6)/\Y.cell? ⟨w.heap.size+1,1,none⟩=some (.int .i64 t1))->(_:Prop))
   case' _=>
    intro J;have PX:=hd J;clear J
   case' _=>
    have HQ:Hid (Bk Y0 Y0 []):=hd (Bk.start Y0);have ag:=pV.o;exact PX.o Y0 HQ ag
   case' _=>
    intro Y HQ ag;refine tw 0 13 (some 113) (some 126) (fun K hK=>?_) (fun K hK=>?_)
    ·rw[if_pos (by rfl)]
     go_simp
     have hk:=Bk.jr HQ.o (.cells #[] 76);have hr:=Bk.nil (d:=fM) (e:=76) (B0:=dL) HQ.o;refine hK.o _ _ (iU.o _ hk.bel) (fun ag=>?_);clear hK K;generalize gA:Y.alloc (.cells #[] 76)=Y1 at hk hr ag⊢;obtain⟨be,gD⟩:=ex Y.heap.size;rw[<-gD]at hr⊢;have fK:=hd (show Y0.heap.size<=be from gD▸HQ.o.bel.size);clear HQ gD gA;have HQ:=hd hk;have HP:=hd hr;clear hk hr
     try refine nm ?_
     exact PV.o Y1 be HQ HP fK ag
    ·rw[if_pos (by rfl)]
     go_simp
     have hk:=Bk.alloc HQ.o ((.cells #[.int .u8 111,.int .u8 100,.int .u8 100] 5));refine hK.o _ _ (iU.o _ hk.bel) (fun ag=>?_);clear hK K;generalize gA:Y.alloc ((.cells #[.int .u8 111,.int .u8 100,.int .u8 100] 5))=Y1 at hk ag⊢;obtain⟨bi,hb⟩:=ex Y.heap.size;rw[<-hb]at hk⊢;clear hb gA HQ;have HQ:=hd hk;clear hk
     try refine nm ?_
     exact PW.o Y1 bi HQ ag
   case' _=>
    intro Y bi HQ ag;refine tw 0 14 (some 113) (some 127) (fun K hK=>?_) (fun K hK=>?_)
    ·rw[if_pos (by rfl)]
     go_simp
     have hk:=Bk.jr HQ.o (.cells #[] 76);have hr:=Bk.nil (d:=fM) (e:=76) (B0:=dL) HQ.o;refine hK.o _ _ (iU.o _ hk.bel) (fun ag=>?_);clear hK K;generalize gA:Y.alloc (.cells #[] 76)=Y1 at hk hr ag⊢;obtain⟨be,gD⟩:=ex Y.heap.size;rw[<-gD]at hr⊢;have fK:=hd (show Y0.heap.size<=be from gD▸HQ.o.bel.size);clear HQ gD gA;have HQ:=hd hk;have HP:=hd hr;clear hk hr
     try refine nm ?_
     exact Gh.o Y1 be bi HQ HP fK ag
    ·have kc: ∀n d:Nat,(convert 51 51 (.slice (some ⟨bi,0,none⟩) n d)).run prog Y= .ok (.slice (some ⟨bi,0,none⟩) n d) (Y.freeze ⟨bi,3,none⟩ 1):=fun n d=>wz (HQ.o.blk _ jy).2
     rw[if_pos (by rfl)]
     go_simp
     have hk:Bk Y0 (Y.freeze ⟨bi,3,none⟩ 1) [(bi,(.cells #[.int .u8 111,.int .u8 100,.int .u8 100] 5 (3,4)))]:=HQ.o.mark;refine hK.o _ _ (iU.o _ hk.bel) (fun ag=>?_);clear hK K kc;generalize gA:Y.freeze ⟨bi,3,none⟩ 1=Y1 at hk ag⊢;clear gA HQ;have HQ:=hd hk;clear hk;refine pu 15 128 ?_
     try refine nm ?_
     exact Zv.o Y1 bi HQ ag
   case' _=>
    intro Y be HQ HP fK ag;refine tw 3 13 (some 116) (some 126) (fun K hK=>?_) (fun K hK=>?_)
    ·refine Kd.aH fM (w0:=Y0) (W:=Y) Y0.heap.size (by rfl) (.tmp 113) (.tmp 115) 34 76 (.agg #[.bool false,.int .i64 0,.int .i64 0,.slice none 0 0]) 48 (by rfl) underlying34 rH rfl (by decide) (by decide) (.slice (some ⟨be,0,none⟩) 0 0) [] M.f6 A6 M.f6.length c6 _ dL (by rfl) (by rfl) HP.o (Kd.bS Ag.o HQ.o.bel) (HQ.o.old HP.o Ah.o fK.o) HQ.o.fresh HQ.o.bel HQ.o.bel.size (by have:=HS.o.n6;have:=HK.o;simp;omega) ?_
     intro v8 Y1 hR hB hG hat;obtain⟨P8,k8,e8⟩:=Kd.cg hR;have hk:=Bk.grown HQ.o hB HP.o hG;clear HP HQ hG hat hB fK;generalize ([]++M.f6).length=n8 at e8;subst e8;refine hK.o (Act.put _ (some 116) _) _ (iU.o _ hk.bel) (fun ag=>?_);clear hK K;have HQ:=hd hk;have HP:=hd hR;clear hk hR
     try refine nm ?_
     exact PU.o Y1 be P8 n8 k8 HQ HP ag
    ·rw[if_pos (by rfl)]
     go_simp
     have hk:=Bk.alloc HQ.o ((.cells #[.int .u8 111,.int .u8 100,.int .u8 100] 5));have hr:=nE.alloc HP.o ((.cells #[.int .u8 111,.int .u8 100,.int .u8 100] 5));refine hK.o _ _ (iU.o _ hk.bel) (fun ag=>?_);clear hK K;generalize gA:Y.alloc ((.cells #[.int .u8 111,.int .u8 100,.int .u8 100] 5))=Y1 at hk hr ag⊢;obtain⟨bi,hb⟩:=ex Y.heap.size;rw[<-hb]at hk hr⊢;clear hb gA HQ HP;have HQ:=hd hk;have HP:=hd hr;clear hk hr
     try refine nm ?_
     exact Gh.o Y1 be bi HQ HP fK ag
   case' _=>
    intro Y bi HQ ag;refine tw 0 16 (some 113) (some 129) (fun K hK=>?_) (fun K hK=>?_)
    ·rw[if_pos (by rfl)]
     go_simp
     have hk:=Bk.jr HQ.o (.cells #[] 76);have hr:=Bk.nil (d:=fM) (e:=76) (B0:=dL) HQ.o;refine hK.o _ _ (iU.o _ hk.bel) (fun ag=>?_);clear hK K;generalize gA:Y.alloc (.cells #[] 76)=Y1 at hk hr ag⊢;obtain⟨be,gD⟩:=ex Y.heap.size;rw[<-gD]at hr⊢;have fK:=hd (show Y0.heap.size<=be from gD▸HQ.o.bel.size);clear HQ gD gA;have HQ:=hd hk;have HP:=hd hr;clear hk hr
     try refine nm ?_
     exact TJ.o Y1 be bi HQ HP fK ag
    ·rw[if_pos (by rfl)]
     go_simp
     have hk:=Bk.alloc HQ.o ((Gc t1 t2 bi));refine hK.o _ _ (iU.o _ hk.bel) (fun ag=>?_);clear hK K;generalize gA:Y.alloc ((Gc t1 t2 bi))=Y1 at hk ag⊢;obtain⟨bb,hb⟩:=ex Y.heap.size;rw[<-hb]at hk⊢;clear hb gA HQ;have HQ:=hd hk;clear hk
     try refine nm ?_
     exact J03.o Y1 bi bb HQ ag
   case' _=>
    intro Y be bi HQ HP fK ag;refine tw 3 14 (some 116) (some 127) (fun K hK=>?_) (fun K hK=>?_)
    ·refine Kd.aH fM (w0:=Y0) (W:=Y) Y0.heap.size (by rfl) (.tmp 113) (.tmp 115) 34 76 (.agg #[.bool false,.int .i64 0,.int .i64 0,.slice none 0 0]) 48 (by rfl) underlying34 rH rfl (by decide) (by decide) (.slice (some ⟨be,0,none⟩) 0 0) [] M.f6 A6 M.f6.length c6 _ dL (by rfl) (by rfl) HP.o (Kd.bS Ag.o HQ.o.bel) (HQ.o.old HP.o Ah.o fK.o) HQ.o.fresh HQ.o.bel HQ.o.bel.size (by have:=HS.o.n6;have:=HK.o;simp;omega) ?_
     intro v8 Y1 hR hB hG hat;obtain⟨P8,k8,e8⟩:=Kd.cg hR;have hk:=Bk.grown HQ.o hB HP.o hG;clear HP HQ hG hat hB fK;generalize ([]++M.f6).length=n8 at e8;subst e8;refine hK.o (Act.put _ (some 116) _) _ (iU.o _ hk.bel) (fun ag=>?_);clear hK K;have HQ:=hd hk;have HP:=hd hR;clear hk hR
     try refine nm ?_
     exact Gg.o Y1 be bi P8 n8 k8 HQ HP ag
    ·have kc: ∀n d:Nat,(convert 51 51 (.slice (some ⟨bi,0,none⟩) n d)).run prog Y= .ok (.slice (some ⟨bi,0,none⟩) n d) (Y.freeze ⟨bi,3,none⟩ 1):=fun n d=>wz (HQ.o.blk _ jy).2
     rw[if_pos (by rfl)]
     go_simp
     have hk:Bk Y0 (Y.freeze ⟨bi,3,none⟩ 1) [(bi,(.cells #[.int .u8 111,.int .u8 100,.int .u8 100] 5 (3,4)))]:=HQ.o.mark;have hr:nE fM 76 dL Y0 (Y.freeze ⟨bi,3,none⟩ 1) [(bi,(.cells #[.int .u8 111,.int .u8 100,.int .u8 100] 5 (3,4)))] (.slice (some ⟨be,0,none⟩) 0 0) []:=nE.mark HP.o HQ.o;refine hK.o _ _ (iU.o _ hk.bel) (fun ag=>?_);clear hK K kc;generalize gA:Y.freeze ⟨bi,3,none⟩ 1=Y1 at hk hr ag⊢;clear gA HQ HP;have HQ:=hd hk;have HP:=hd hr;clear hk hr;refine pu 15 128 ?_
     try refine nm ?_
     exact TJ.o Y1 be bi HQ HP fK ag
   case' _=>
    intro Y be P8 n8 k8 HQ HP ag;refine on 13 (some 126) (fun K hK=>?_);rw[if_pos (by rfl)]
    go_simp
    have hk:=Bk.alloc HQ.o ((.cells #[.int .u8 111,.int .u8 100,.int .u8 100] 5));have hr:=nE.alloc HP.o ((.cells #[.int .u8 111,.int .u8 100,.int .u8 100] 5));refine hK.o _ _ (iU.o _ hk.bel) (fun ag=>?_);clear hK K;generalize gA:Y.alloc ((.cells #[.int .u8 111,.int .u8 100,.int .u8 100] 5))=Y1 at hk hr ag⊢;obtain⟨bi,hb⟩:=ex Y.heap.size;rw[<-hb]at hk hr⊢;clear hb gA HQ HP;have HQ:=hd hk;have HP:=hd hr;clear hk hr
    try refine nm ?_
    exact Gg.o Y1 be bi P8 n8 k8 HQ HP ag
   case' _=>
    intro Y bi bb HQ ag;refine on 0 (some 113) (fun K hK=>?_);rw[if_pos (by rfl)]
    go_simp
    have hk:=Bk.jr HQ.o (.cells #[] 76);have hr:=Bk.nil (d:=fM) (e:=76) (B0:=dL) HQ.o;refine hK.o _ _ (iU.o _ hk.bel) (fun ag=>?_);clear hK K;generalize gA:Y.alloc (.cells #[] 76)=Y1 at hk hr ag⊢;obtain⟨be,gD⟩:=ex Y.heap.size;rw[<-gD]at hr⊢;have fK:=hd (show Y0.heap.size<=be from gD▸HQ.o.bel.size);clear HQ gD gA;have HQ:=hd hk;have HP:=hd hr;clear hk hr
    try refine nm ?_
    exact Zu.o Y1 be bi bb HQ HP fK ag
   case' _=>
    intro Y be bi HQ HP fK ag;refine tw 3 16 (some 116) (some 129) (fun K hK=>?_) (fun K hK=>?_)
    ·refine Kd.aH fM (w0:=Y0) (W:=Y) Y0.heap.size (by rfl) (.tmp 113) (.tmp 115) 34 76 (.agg #[.bool false,.int .i64 0,.int .i64 0,.slice none 0 0]) 48 (by rfl) underlying34 rH rfl (by decide) (by decide) (.slice (some ⟨be,0,none⟩) 0 0) [] M.f6 A6 M.f6.length c6 _ dL (by rfl) (by rfl) HP.o (Kd.bS Ag.o HQ.o.bel) (HQ.o.old HP.o Ah.o fK.o) HQ.o.fresh HQ.o.bel HQ.o.bel.size (by have:=HS.o.n6;have:=HK.o;simp;omega) ?_
     intro v8 Y1 hR hB hG hat;obtain⟨P8,k8,e8⟩:=Kd.cg hR;have hk:=Bk.grown HQ.o hB HP.o hG;clear HP HQ hG hat hB fK;generalize ([]++M.f6).length=n8 at e8;subst e8;refine hK.o (Act.put _ (some 116) _) _ (iU.o _ hk.bel) (fun ag=>?_);clear hK K;have HQ:=hd hk;have HP:=hd hR;clear hk hR
     try refine nm ?_
     exact Qr.o Y1 be bi P8 n8 k8 HQ HP ag
    ·rw[if_pos (by rfl)]
     go_simp
     have hk:=Bk.alloc HQ.o ((Gc t1 t2 bi));have hr:=nE.alloc HP.o ((Gc t1 t2 bi));refine hK.o _ _ (iU.o _ hk.bel) (fun ag=>?_);clear hK K;generalize gA:Y.alloc ((Gc t1 t2 bi))=Y1 at hk hr ag⊢;obtain⟨bb,hb⟩:=ex Y.heap.size;rw[<-hb]at hk hr⊢;clear hb gA HQ HP;have HQ:=hd hk;have HP:=hd hr;clear hk hr
     try refine nm ?_
     exact Zu.o Y1 be bi bb HQ HP fK ag
   case' _=>
    intro Y be bi P8 n8 k8 HQ HP ag;refine on 14 (some 127) (fun K hK=>?_);have kc: ∀n d:Nat,(convert 51 51 (.slice (some ⟨bi,0,none⟩) n d)).run prog Y= .ok (.slice (some ⟨bi,0,none⟩) n d) (Y.freeze ⟨bi,3,none⟩ 1):=fun n d=>wz (HQ.o.blk _ jy).2
    rw[if_pos (by rfl)]
    go_simp
    have hk:Bk Y0 (Y.freeze ⟨bi,3,none⟩ 1) [(bi,(.cells #[.int .u8 111,.int .u8 100,.int .u8 100] 5 (3,4)))]:=HQ.o.mark;have hr:nE fM 76 dL Y0 (Y.freeze ⟨bi,3,none⟩ 1) [(bi,(.cells #[.int .u8 111,.int .u8 100,.int .u8 100] 5 (3,4)))] (.slice P8 n8 k8) M.f6:=nE.mark HP.o HQ.o;refine hK.o _ _ (iU.o _ hk.bel) (fun ag=>?_);clear hK K kc;generalize gA:Y.freeze ⟨bi,3,none⟩ 1=Y1 at hk hr ag⊢;clear gA HQ HP;have HQ:=hd hk;have HP:=hd hr;clear hk hr;refine pu 15 128 ?_
    try refine nm ?_
    exact Qr.o Y1 be bi P8 n8 k8 HQ HP ag
   case' _=>
    intro Y be bi bb HQ HP fK ag;refine on 3 (some 116) (fun K hK=>?_);refine Kd.aH fM (w0:=Y0) (W:=Y) Y0.heap.size (by rfl) (.tmp 113) (.tmp 115) 34 76 (.agg #[.bool false,.int .i64 0,.int .i64 0,.slice none 0 0]) 48 (by rfl) underlying34 rH rfl (by decide) (by decide) (.slice (some ⟨be,0,none⟩) 0 0) [] M.f6 A6 M.f6.length c6 _ dL (by rfl) (by rfl) HP.o (Kd.bS Ag.o HQ.o.bel) (HQ.o.old HP.o Ah.o fK.o) HQ.o.fresh HQ.o.bel HQ.o.bel.size (by have:=HS.o.n6;have:=HK.o;simp;omega) ?_;intro v8 Y1 hR hB hG hat;obtain⟨P8,k8,e8⟩:=Kd.cg hR;have hk:=Bk.grown HQ.o hB HP.o hG;clear HP HQ hG hat hB fK;generalize ([]++M.f6).length=n8 at e8;subst e8;refine hK.o (Act.put _ (some 116) _) _ (iU.o _ hk.bel) (fun ag=>?_);clear hK K;have HQ:=hd hk;have HP:=hd hR;clear hk hR
    try refine nm ?_
    exact TI.o Y1 be bi bb P8 n8 k8 HQ HP ag
   case' _=>
    intro Y be bi P8 n8 k8 HQ HP ag;refine on 16 (some 129) (fun K hK=>?_);rw[if_pos (by rfl)]
    go_simp
    have hk:=Bk.alloc HQ.o ((Gc t1 t2 bi));have hr:=nE.alloc HP.o ((Gc t1 t2 bi));refine hK.o _ _ (iU.o _ hk.bel) (fun ag=>?_);clear hK K;generalize gA:Y.alloc ((Gc t1 t2 bi))=Y1 at hk hr ag⊢;obtain⟨bb,hb⟩:=ex Y.heap.size;rw[<-hb]at hk hr⊢;clear hb gA HQ HP;have HQ:=hd hk;have HP:=hd hr;clear hk hr
    try refine nm ?_
    exact TI.o Y1 be bi bb P8 n8 k8 HQ HP ag
   intro Y be bi bb P8 n8 k8 HQ HP ag;have hq:=HQ.o;have hp:=HP.o;have F0:=hd (hq.blk _ (jy));have N0:=hd (nE.own hp _ (jy));have F1:=hd (hq.blk _ (List.mem_cons_of_mem _ (jy)));have N1:=hd (nE.own hp _ (List.mem_cons_of_mem _ (jy)));clear hq hp;refine on 17 (some 130) (fun K hK=>?_);refine Kd.aH fM (w0:=Y0) (W:=Y) Y0.heap.size (by rfl) (.tmp 116) (.tmp 129) 34 76 (.agg #[.bool false,.int .i64 0,.int .i64 0,.slice none 0 0]) 48 (by rfl) underlying34 rH rfl (by decide) (by decide) (.slice P8 n8 k8) M.f6 [⟨(((bits .and .i64 t1 1))==(0:Int)),(bits .and .i64 t2 3),(bits .and .i64 t1 2047),[111,100,100]⟩] (some ⟨bb,0,none⟩) 1 1 (fun q=>dL q\/X.heap.size<=q) (fun q=>q=bb\/q=bi) (by rfl) (by rfl) (Kd.mU HP.o (fun q hq=>hq.1.imp id (fun h=>by have:=uU.o;omega))) (fun W' hW=>oB (cells:= [.bool (((bits .and .i64 t1 1))==(0:Int)),.int .i64 (bits .and .i64 t2 3),.int .i64 (bits .and .i64 t1 2047),.slice (some ⟨bi,0,none⟩) 3 3]) (xs:= [(⟨(((bits .and .i64 t1 1))==(0:Int)),(bits .and .i64 t2 3),(bits .and .i64 t1 2047),[111,100,100]⟩:eF)]) ((hW bb (.inl rfl) (aj F0.o.2)).trans F0.o.2) ((dU.none _ _).snoc (qI W' ⟨(((bits .and .i64 t1 1))==(0:Int)),(bits .and .i64 t2 3),(bits .and .i64 t1 2047),[111,100,100]⟩ (aU 3) (pS (l:= [111,100,100]) ((hW bi (.inr rfl) (aj F1.o.2)).trans F1.o.2) (show 3<=9223372036854775807 by decide))) rfl) (show 1<=9223372036854775807 by decide)) (fun q hq=>by rcases hq with rfl|rfl;exact⟨.inr (by have:=F0.o.1;have:=uU.o;omega),N0.o⟩;exact⟨.inr (by have:=F1.o.1;have:=uU.o;omega),N1.o⟩) (fun q hq=> .inr (by have:=HQ.o.bel.size;have:=uU.o;omega)) HQ.o.bel HQ.o.bel.size (by have:=HS.o.n6;have:=HK.o;simp;omega) ?_;intro Zt wS mI qm LZ Cr;obtain⟨xz,wT,DJ⟩:=Kd.cg mI;have hlen:(M.f6++ [(⟨(((bits .and .i64 t1 1))==(0:Int)),(bits .and .i64 t2 3),(bits .and .i64 t1 2047),[111,100,100]⟩:eF)]).length=M.f6.length+1:=by simp
   rw[hlen]at DJ;subst DJ;have DU:Below X.heap.size X wS:=az cn.o qm;refine hK.o (Act.put _ (some 130) _) _ (iU.o _ qm) (fun ag=>?_);clear hK K;refine nm ?_;have oI:=HA.o.below DU;have hP:=(oI).put (pU:=(fun q=>dL q\/X.heap.size<=q)) (M':= {M with f6:=(M.f6++ [(⟨(((bits .and .i64 t1 1))==(0:Int)),(bits .and .i64 t2 3),(bits .and .i64 t1 2047),[111,100,100]⟩:eF)])}) (cs':= [.slice A0 M.f0.length c0,.slice A1 M.f1.length c1,.slice A2 M.f2.length c2,.slice A3 M.f3.length c3,.slice A4 M.f4.length c4,.slice A5 M.f5.length c5,.slice xz ((M.f6++ [(⟨(((bits .and .i64 t1 1))==(0:Int)),(bits .and .i64 t2 3),(bits .and .i64 t1 2047),[111,100,100]⟩:eF)])).length wT,.slice A7 M.f7.length c7]) 6 (.slice xz ((M.f6++ [(⟨(((bits .and .i64 t1 1))==(0:Int)),(bits .and .i64 t2 3),(bits .and .i64 t1 2047),[111,100,100]⟩:eF)])).length wT) rfl (fun W' hW=>LU ((oI).fk W' (fun q hq bI=>hW q (.inl hq) bI)) (by rw[hlen];exact(Kd.eN mI).2.1) (Kd.J2 (show Kd.N fM 76 _ Y0.heap.size (fun q=>dL q\/X.heap.size<=q) (.slice xz (M.f6++ [(⟨(((bits .and .i64 t1 1))==(0:Int)),(bits .and .i64 t2 3),(bits .and .i64 t1 2047),[111,100,100]⟩:eF)]).length wT) (M.f6++ [(⟨(((bits .and .i64 t1 1))==(0:Int)),(bits .and .i64 t2 3),(bits .and .i64 t1 2047),[111,100,100]⟩:eF)])from(by rw[hlen];exact mI)) W' (fun q hq bI=>hW q hq bI))) wA.o (by have sc:=HS.o.c;have ss:=HS.o.s;have sl:=HS.o.n6;exact HS.o.ad8 (by show(M.f6++ [(⟨(((bits .and .i64 t1 1))==(0:Int)),(bits .and .i64 t2 3),(bits .and .i64 t1 2047),[111,100,100]⟩:eF)]).length<=k+1;simp;omega));have zb:wS.cell? ⟨w.heap.size,6,none⟩=some (.slice A6 M.f6.length c6):=(aa (oI).box 6).trans rfl;have fb:wS.frozen? ⟨w.heap.size,6,none⟩=false:=ah (oI).box 6;rw[hlen]at hP;refine pu 18 131 ?_;refine la 19 ?_;refine dn ?_;obtain⟨W1,M1,P0,n0,d0,P1,n1,d1,P2,n2,d2,P3,n3,d3,P4,n4,d4,P5,n5,d5,P6,n6,d6,P7,n7,d7,hw1,HO,⟨q0,q1,q2,q3,q4,q5,q6,q7⟩,⟨z0,z1,z2,z3,z4,z5,z6,z7⟩,k0,k1,k2,k3,k4,k5,k6,k7⟩:=fU.named hP;rw[hw1];clear hw1;clear hP oI zb fb
   go_wp2_with fail
   refine bodyPost_ret (v:=_) (by simp[results,results36,go_sem,z0,z1,z2,z3,z4,z5,z6,z7]<;>rfl) rfl ?_;exact HO.o.qb LW.o
  ·skip
   have ix0:0<=(bits .and .i64 t1 3)/\(bits .and .i64 t1 3)<4:=aea t1;have UY:=hd ix0;have ix1:=ix0.1;have ix2:=ix0.2;clear ix0
   go_wp2_with fail
   refine st 21 (fun w'=>w'.cell? ⟨w.heap.size,4,none⟩=some (.slice A4 M.f4.length c4)/\w'.cell? ⟨w.heap.size+1,1,none⟩=some (.int .i64 t1)/\w'.cell? ⟨w.heap.size+1,3,none⟩=some (.int .u64 t3)) [20] ⟨m4,y1,y3⟩ (fun ag=>?_);refine pu 1 135 ?_;refine tk 2 136 ag ?_;refine pu2 4 138 6 140 ?_;refine tk 7 141 ag ?_;refine cZ 8 142 11 145 12 146 ?_;refine pu2 13 147 14 148 ?_;refine tk 15 149 ag ?_;have hb0:Below X.heap.size X X.drew:=aX (ay _ _);have hy0:X.drew.heap.size=X.heap.size:=rfl;have hf0:=(Kd.mS (Kd.bS HF4.o PN.o));generalize X.drew=Y0 at hb0 hy0 hf0 ag⊢;have cn:=hd hb0;have uU:=hd hy0;have Ag:=hd hf0;have Ah:=hd (show∀q,dL q->q<Y0.heap.size from fun q hq=>by have:=Gf.o;have:=ql.o q hq;have:=uU.o;omega);clear hb0 hy0 hf0;have pV:=hd ag;clear ag;have iU:=hd (show∀W,Below Y0.heap.size Y0 W->W.cell? ⟨w.heap.size,4,none⟩=some (.slice A4 M.f4.length c4)/\W.cell? ⟨w.heap.size+1,1,none⟩=some (.int .i64 t1)/\W.cell? ⟨w.heap.size+1,3,none⟩=some (.int .u64 t3)from fun W hb=>⟨(((hb).cell (aR Y0 _ pV.o.1)).trans pV.o.1),(((hb).cell (aR Y0 _ pV.o.2.1)).trans pV.o.2.1),(((hb).cell (aR Y0 _ pV.o.2.2)).trans pV.o.2.2)⟩);apply dm (J:= ∀(Y:World) (be:Nat) (bi:Nat) (tv:Int) (bb:Nat) (P8:Option Addr) (n8:Nat) (k8:Nat),((_:Prop))->((_:Prop))->((_:Prop))->(_:Prop))
   case' _=>
    intro J;have TI:=hd J;clear J
   apply dm (J:= ∀(Y:World) (be:Nat) (bi:Nat) (tv:Int) (P8:Option Addr) (n8:Nat) (k8:Nat),((_:Prop))->((_:Prop))->((_:Prop))->(_:Prop))
   case' _=>
    intro J;have Qr:=hd J;clear J
   apply dm (J:= ∀(Y:World) (be:Nat) (bi:Nat) (tv:Int) (bb:Nat),((_:Prop))->((_:Prop))->((_:Prop))->((_:Prop))->(_:Prop))
   case' _=>
    intro J;have Zu:=hd J;clear J
   apply dm (J:= ∀(Y:World) (be:Nat) (bi:Nat) (P8:Option Addr) (n8:Nat) (k8:Nat),((_:Prop))->((_:Prop))->((_:Prop))->(_:Prop))
   case' _=>
    intro J;have Gg:=hd J;clear J
   apply dm (J:= ∀(Y:World) (be:Nat) (bi:Nat) (tv:Int),((_:Prop))->((_:Prop))->((_:Prop))->((_:Prop))->(_:Prop))
   case' _=>
    intro J;have TJ:=hd J;clear J
   apply dm (J:= ∀(Y:World) (bi:Nat) (tv:Int) (bb:Nat),((_:Prop))->((_:Prop))->(_:Prop))
   case' _=>
    intro J;have J03:=hd J;clear J
   apply dm (J:= ∀(Y:World) (be:Nat) (P8:Option Addr) (n8:Nat) (k8:Nat),((_:Prop))->((_:Prop))->((_:Prop))->(_:Prop))
   case' _=>
    intro J;have PU:=hd J;clear J
   apply dm (J:= ∀(Y:World) (be:Nat) (bi:Nat),((_:Prop))->((_:Prop))->((_:Prop))->((_:Prop))->(_:Prop))
   case' _=>
    intro J;have Gh:=hd J;clear J
   apply dm (J:= ∀(Y:World) (bi:Nat) (tv:Int),((_:Prop))->((_:Prop))->(_:Prop))
   case' _=>
    intro J;have Zv:=hd J;clear J
   apply dm (J:= ∀(Y:World) (be:Nat),((_:Prop))->((_:Prop))->((_:Prop))->((_:Prop))->(_:Prop))
   case' _=>
    intro J;have PV:=hd J;clear J
   apply dm (J:= ∀(Y:World) (bi:Nat),((_:Prop))->((_:Prop))->(_:Prop))
   case' _=>
    intro J;have PW:=hd J;clear J
   apply dm (J:= ∀(Y:World),(Hid (Bk Y0 Y []))->(Y.cell? ⟨w.heap.size,4,none⟩=some (.slice A4 M.f4.length c4)/\Y.cell? ⟨w.heap.size+1,1,none⟩=some (.int .i64 t1)/\Y.cell? ⟨w.heap.size+1,3,none⟩=some (.int .u64 t3))->(_:Prop))
   case' _=>
    intro J;have PX:=hd J;clear J
   case' _=>
    have HQ:Hid (Bk Y0 Y0 []):=hd (Bk.start Y0);have ag:=pV.o;exact PX.o Y0 HQ ag
   case' _=>
    intro Y HQ ag;refine tw 0 5 (some 134) (some 139) (fun K hK=>?_) (fun K hK=>?_)
    ·rw[if_pos (by rfl)]
     go_simp
     have hk:=Bk.jr HQ.o (.cells #[] 55);have hr:=Bk.nil (d:=eE) (e:=55) (B0:=dL) HQ.o;refine hK.o _ _ (iU.o _ hk.bel) (fun ag=>?_);clear hK K;generalize gA:Y.alloc (.cells #[] 55)=Y1 at hk hr ag⊢;obtain⟨be,gD⟩:=ex Y.heap.size;rw[<-gD]at hr⊢;have fK:=hd (show Y0.heap.size<=be from gD▸HQ.o.bel.size);clear HQ gD gA;have HQ:=hd hk;have HP:=hd hr;clear hk hr
     try refine nm ?_
     exact PV.o Y1 be HQ HP fK ag
    ·rw[if_pos (by rfl)]
     go_simp
     have hk:=Bk.alloc HQ.o ((.cells #[.int .i64 127,.int .i64 126,.int .i64 124,.int .i64 t2] 3));refine hK.o _ _ (iU.o _ hk.bel) (fun ag=>?_);clear hK K;generalize gA:Y.alloc ((.cells #[.int .i64 127,.int .i64 126,.int .i64 124,.int .i64 t2] 3))=Y1 at hk ag⊢;obtain⟨bi,hb⟩:=ex Y.heap.size;rw[<-hb]at hk⊢;clear hb gA HQ;have HQ:=hd hk;clear hk;refine pu 9 143 ?_
     try refine nm ?_
     exact PW.o Y1 bi HQ ag
   case' _=>
    intro Y bi HQ ag;refine tw 0 10 (some 134) (some 144) (fun K hK=>?_) (fun K hK=>?_)
    ·rw[if_pos (by rfl)]
     go_simp
     have hk:=Bk.jr HQ.o (.cells #[] 55);have hr:=Bk.nil (d:=eE) (e:=55) (B0:=dL) HQ.o;refine hK.o _ _ (iU.o _ hk.bel) (fun ag=>?_);clear hK K;generalize gA:Y.alloc (.cells #[] 55)=Y1 at hk hr ag⊢;obtain⟨be,gD⟩:=ex Y.heap.size;rw[<-gD]at hr⊢;have fK:=hd (show Y0.heap.size<=be from gD▸HQ.o.bel.size);clear HQ gD gA;have HQ:=hd hk;have HP:=hd hr;clear hk hr
     try refine nm ?_
     exact Gh.o Y1 be bi HQ HP fK ag
    ·obtain⟨tv,VU⟩: ∃v:Int,Y.cell? ⟨bi,((bits .and .i64 t1 3)).toNat,none⟩=some (.int .i64 v):=⟨_,(aa (HQ.o.blk _ jy).2 ((bits .and .i64 t1 3)).toNat).trans (pQ [127,126,124,t2] ((bits .and .i64 t1 3)).toNat (by have:=UY.o;simp;omega))⟩
     rw[if_pos (by rfl)]
     go_simp
     refine hK.o _ _ ag (fun ag=>?_);clear hK K VU;obtain⟨Y1,rfl⟩:=ex Y;have hk:=HQ.o;clear HQ;have HQ:=hd hk;clear hk;refine pu 16 150 ?_
     try refine nm ?_
     exact Zv.o Y1 bi tv HQ ag
   case' _=>
    intro Y be HQ HP fK ag;refine tw 3 5 (some 137) (some 139) (fun K hK=>?_) (fun K hK=>?_)
    ·refine Kd.aH eE (w0:=Y0) (W:=Y) Y0.heap.size (by rfl) (.tmp 134) (.tmp 136) 32 55 (.agg #[.int .i64 0,.bool false,.int .u64 0]) 24 (by rfl) underlying32 nA rfl (by decide) (by decide) (.slice (some ⟨be,0,none⟩) 0 0) [] M.f4 A4 M.f4.length c4 _ dL (by rfl) (by rfl) HP.o (Kd.bS Ag.o HQ.o.bel) (HQ.o.old HP.o Ah.o fK.o) HQ.o.fresh HQ.o.bel HQ.o.bel.size (by have:=HS.o.n4;have:=HK.o;simp;omega) ?_
     intro v8 Y1 hR hB hG hat;obtain⟨P8,k8,e8⟩:=Kd.cg hR;have hk:=Bk.grown HQ.o hB HP.o hG;clear HP HQ hG hat hB fK;generalize ([]++M.f4).length=n8 at e8;subst e8;refine hK.o (Act.put _ (some 137) _) _ (iU.o _ hk.bel) (fun ag=>?_);clear hK K;have HQ:=hd hk;have HP:=hd hR;clear hk hR
     try refine nm ?_
     exact PU.o Y1 be P8 n8 k8 HQ HP ag
    ·rw[if_pos (by rfl)]
     go_simp
     have hk:=Bk.alloc HQ.o ((.cells #[.int .i64 127,.int .i64 126,.int .i64 124,.int .i64 t2] 3));have hr:=nE.alloc HP.o ((.cells #[.int .i64 127,.int .i64 126,.int .i64 124,.int .i64 t2] 3));refine hK.o _ _ (iU.o _ hk.bel) (fun ag=>?_);clear hK K;generalize gA:Y.alloc ((.cells #[.int .i64 127,.int .i64 126,.int .i64 124,.int .i64 t2] 3))=Y1 at hk hr ag⊢;obtain⟨bi,hb⟩:=ex Y.heap.size;rw[<-hb]at hk hr⊢;clear hb gA HQ HP;have HQ:=hd hk;have HP:=hd hr;clear hk hr;refine pu 9 143 ?_
     try refine nm ?_
     exact Gh.o Y1 be bi HQ HP fK ag
   case' _=>
    intro Y bi tv HQ ag;refine tw 0 17 (some 134) (some 151) (fun K hK=>?_) (fun K hK=>?_)
    ·rw[if_pos (by rfl)]
     go_simp
     have hk:=Bk.jr HQ.o (.cells #[] 55);have hr:=Bk.nil (d:=eE) (e:=55) (B0:=dL) HQ.o;refine hK.o _ _ (iU.o _ hk.bel) (fun ag=>?_);clear hK K;generalize gA:Y.alloc (.cells #[] 55)=Y1 at hk hr ag⊢;obtain⟨be,gD⟩:=ex Y.heap.size;rw[<-gD]at hr⊢;have fK:=hd (show Y0.heap.size<=be from gD▸HQ.o.bel.size);clear HQ gD gA;have HQ:=hd hk;have HP:=hd hr;clear hk hr
     try refine nm ?_
     exact TJ.o Y1 be bi tv HQ HP fK ag
    ·rw[if_pos (by rfl)]
     go_simp
     have hk:=Bk.alloc HQ.o ((wR tv t2 t3));refine hK.o _ _ (iU.o _ hk.bel) (fun ag=>?_);clear hK K;generalize gA:Y.alloc ((wR tv t2 t3))=Y1 at hk ag⊢;obtain⟨bb,hb⟩:=ex Y.heap.size;rw[<-hb]at hk⊢;clear hb gA HQ;have HQ:=hd hk;clear hk
     try refine nm ?_
     exact J03.o Y1 bi tv bb HQ ag
   case' _=>
    intro Y be bi HQ HP fK ag;refine tw 3 10 (some 137) (some 144) (fun K hK=>?_) (fun K hK=>?_)
    ·refine Kd.aH eE (w0:=Y0) (W:=Y) Y0.heap.size (by rfl) (.tmp 134) (.tmp 136) 32 55 (.agg #[.int .i64 0,.bool false,.int .u64 0]) 24 (by rfl) underlying32 nA rfl (by decide) (by decide) (.slice (some ⟨be,0,none⟩) 0 0) [] M.f4 A4 M.f4.length c4 _ dL (by rfl) (by rfl) HP.o (Kd.bS Ag.o HQ.o.bel) (HQ.o.old HP.o Ah.o fK.o) HQ.o.fresh HQ.o.bel HQ.o.bel.size (by have:=HS.o.n4;have:=HK.o;simp;omega) ?_
     intro v8 Y1 hR hB hG hat;obtain⟨P8,k8,e8⟩:=Kd.cg hR;have hk:=Bk.grown HQ.o hB HP.o hG;clear HP HQ hG hat hB fK;generalize ([]++M.f4).length=n8 at e8;subst e8;refine hK.o (Act.put _ (some 137) _) _ (iU.o _ hk.bel) (fun ag=>?_);clear hK K;have HQ:=hd hk;have HP:=hd hR;clear hk hR
     try refine nm ?_
     exact Gg.o Y1 be bi P8 n8 k8 HQ HP ag
    ·obtain⟨tv,VU⟩: ∃v:Int,Y.cell? ⟨bi,((bits .and .i64 t1 3)).toNat,none⟩=some (.int .i64 v):=⟨_,(aa (HQ.o.blk _ jy).2 ((bits .and .i64 t1 3)).toNat).trans (pQ [127,126,124,t2] ((bits .and .i64 t1 3)).toNat (by have:=UY.o;simp;omega))⟩
     rw[if_pos (by rfl)]
     go_simp
     refine hK.o _ _ ag (fun ag=>?_);clear hK K VU;obtain⟨Y1,rfl⟩:=ex Y;have hk:=HQ.o;have hr:=HP.o;clear HQ HP;have HQ:=hd hk;have HP:=hd hr;clear hk hr;refine pu 16 150 ?_
     try refine nm ?_
     exact TJ.o Y1 be bi tv HQ HP fK ag
   case' _=>
    intro Y be P8 n8 k8 HQ HP ag;refine on 5 (some 139) (fun K hK=>?_);rw[if_pos (by rfl)]
    go_simp
    have hk:=Bk.alloc HQ.o ((.cells #[.int .i64 127,.int .i64 126,.int .i64 124,.int .i64 t2] 3));have hr:=nE.alloc HP.o ((.cells #[.int .i64 127,.int .i64 126,.int .i64 124,.int .i64 t2] 3));refine hK.o _ _ (iU.o _ hk.bel) (fun ag=>?_);clear hK K;generalize gA:Y.alloc ((.cells #[.int .i64 127,.int .i64 126,.int .i64 124,.int .i64 t2] 3))=Y1 at hk hr ag⊢;obtain⟨bi,hb⟩:=ex Y.heap.size;rw[<-hb]at hk hr⊢;clear hb gA HQ HP;have HQ:=hd hk;have HP:=hd hr;clear hk hr;refine pu 9 143 ?_
    try refine nm ?_
    exact Gg.o Y1 be bi P8 n8 k8 HQ HP ag
   case' _=>
    intro Y bi tv bb HQ ag;refine on 0 (some 134) (fun K hK=>?_);rw[if_pos (by rfl)]
    go_simp
    have hk:=Bk.jr HQ.o (.cells #[] 55);have hr:=Bk.nil (d:=eE) (e:=55) (B0:=dL) HQ.o;refine hK.o _ _ (iU.o _ hk.bel) (fun ag=>?_);clear hK K;generalize gA:Y.alloc (.cells #[] 55)=Y1 at hk hr ag⊢;obtain⟨be,gD⟩:=ex Y.heap.size;rw[<-gD]at hr⊢;have fK:=hd (show Y0.heap.size<=be from gD▸HQ.o.bel.size);clear HQ gD gA;have HQ:=hd hk;have HP:=hd hr;clear hk hr
    try refine nm ?_
    exact Zu.o Y1 be bi tv bb HQ HP fK ag
   case' _=>
    intro Y be bi tv HQ HP fK ag;refine tw 3 17 (some 137) (some 151) (fun K hK=>?_) (fun K hK=>?_)
    ·refine Kd.aH eE (w0:=Y0) (W:=Y) Y0.heap.size (by rfl) (.tmp 134) (.tmp 136) 32 55 (.agg #[.int .i64 0,.bool false,.int .u64 0]) 24 (by rfl) underlying32 nA rfl (by decide) (by decide) (.slice (some ⟨be,0,none⟩) 0 0) [] M.f4 A4 M.f4.length c4 _ dL (by rfl) (by rfl) HP.o (Kd.bS Ag.o HQ.o.bel) (HQ.o.old HP.o Ah.o fK.o) HQ.o.fresh HQ.o.bel HQ.o.bel.size (by have:=HS.o.n4;have:=HK.o;simp;omega) ?_
     intro v8 Y1 hR hB hG hat;obtain⟨P8,k8,e8⟩:=Kd.cg hR;have hk:=Bk.grown HQ.o hB HP.o hG;clear HP HQ hG hat hB fK;generalize ([]++M.f4).length=n8 at e8;subst e8;refine hK.o (Act.put _ (some 137) _) _ (iU.o _ hk.bel) (fun ag=>?_);clear hK K;have HQ:=hd hk;have HP:=hd hR;clear hk hR
     try refine nm ?_
     exact Qr.o Y1 be bi tv P8 n8 k8 HQ HP ag
    ·rw[if_pos (by rfl)]
     go_simp
     have hk:=Bk.alloc HQ.o ((wR tv t2 t3));have hr:=nE.alloc HP.o ((wR tv t2 t3));refine hK.o _ _ (iU.o _ hk.bel) (fun ag=>?_);clear hK K;generalize gA:Y.alloc ((wR tv t2 t3))=Y1 at hk hr ag⊢;obtain⟨bb,hb⟩:=ex Y.heap.size;rw[<-hb]at hk hr⊢;clear hb gA HQ HP;have HQ:=hd hk;have HP:=hd hr;clear hk hr
     try refine nm ?_
     exact Zu.o Y1 be bi tv bb HQ HP fK ag
   case' _=>
    intro Y be bi P8 n8 k8 HQ HP ag;refine on 10 (some 144) (fun K hK=>?_);obtain⟨tv,VU⟩: ∃v:Int,Y.cell? ⟨bi,((bits .and .i64 t1 3)).toNat,none⟩=some (.int .i64 v):=⟨_,(aa (HQ.o.blk _ jy).2 ((bits .and .i64 t1 3)).toNat).trans (pQ [127,126,124,t2] ((bits .and .i64 t1 3)).toNat (by have:=UY.o;simp;omega))⟩;rw[if_pos (by rfl)]
    go_simp
    refine hK.o _ _ ag (fun ag=>?_);clear hK K VU;obtain⟨Y1,rfl⟩:=ex Y;have hk:=HQ.o;have hr:=HP.o;clear HQ HP;have HQ:=hd hk;have HP:=hd hr;clear hk hr;refine pu 16 150 ?_
    try refine nm ?_
    exact Qr.o Y1 be bi tv P8 n8 k8 HQ HP ag
   case' _=>
    intro Y be bi tv bb HQ HP fK ag;refine on 3 (some 137) (fun K hK=>?_);refine Kd.aH eE (w0:=Y0) (W:=Y) Y0.heap.size (by rfl) (.tmp 134) (.tmp 136) 32 55 (.agg #[.int .i64 0,.bool false,.int .u64 0]) 24 (by rfl) underlying32 nA rfl (by decide) (by decide) (.slice (some ⟨be,0,none⟩) 0 0) [] M.f4 A4 M.f4.length c4 _ dL (by rfl) (by rfl) HP.o (Kd.bS Ag.o HQ.o.bel) (HQ.o.old HP.o Ah.o fK.o) HQ.o.fresh HQ.o.bel HQ.o.bel.size (by have:=HS.o.n4;have:=HK.o;simp;omega) ?_;intro v8 Y1 hR hB hG hat;obtain⟨P8,k8,e8⟩:=Kd.cg hR;have hk:=Bk.grown HQ.o hB HP.o hG;clear HP HQ hG hat hB fK;generalize ([]++M.f4).length=n8 at e8;subst e8;refine hK.o (Act.put _ (some 137) _) _ (iU.o _ hk.bel) (fun ag=>?_);clear hK K;have HQ:=hd hk;have HP:=hd hR;clear hk hR
    try refine nm ?_
    exact TI.o Y1 be bi tv bb P8 n8 k8 HQ HP ag
   case' _=>
    intro Y be bi tv P8 n8 k8 HQ HP ag;refine on 17 (some 151) (fun K hK=>?_);rw[if_pos (by rfl)]
    go_simp
    have hk:=Bk.alloc HQ.o ((wR tv t2 t3));have hr:=nE.alloc HP.o ((wR tv t2 t3));refine hK.o _ _ (iU.o _ hk.bel) (fun ag=>?_);clear hK K;generalize gA:Y.alloc ((wR tv t2 t3))=Y1 at hk hr ag⊢;obtain⟨bb,hb⟩:=ex Y.heap.size;rw[<-hb]at hk hr⊢;clear hb gA HQ HP;have HQ:=hd hk;have HP:=hd hr;clear hk hr
    try refine nm ?_
    exact TI.o Y1 be bi tv bb P8 n8 k8 HQ HP ag
   intro Y be bi tv bb P8 n8 k8 HQ HP ag;have hq:=HQ.o;have hp:=HP.o;have F0:=hd (hq.blk _ (jy));have N0:=hd (nE.own hp _ (jy));have F1:=hd (hq.blk _ (List.mem_cons_of_mem _ (jy)));have N1:=hd (nE.own hp _ (List.mem_cons_of_mem _ (jy)));clear hq hp;refine on 18 (some 152) (fun K hK=>?_);refine Kd.aH eE (w0:=Y0) (W:=Y) Y0.heap.size (by rfl) (.tmp 137) (.tmp 151) 32 55 (.agg #[.int .i64 0,.bool false,.int .u64 0]) 24 (by rfl) underlying32 nA rfl (by decide) (by decide) (.slice P8 n8 k8) M.f4 [⟨tv,((bits .and .i64 t2 1)==(0:Int)),t3⟩] (some ⟨bb,0,none⟩) 1 1 (fun q=>dL q\/X.heap.size<=q) (fun q=>q=bb\/q=bi) (by rfl) (by rfl) (Kd.mU HP.o (fun q hq=>hq.1.imp id (fun h=>by have:=uU.o;omega))) (fun W' hW=>oB (cells:= [.int .i64 tv,.bool ((bits .and .i64 t2 1)==(0:Int)),.int .u64 t3]) (xs:= [(⟨tv,((bits .and .i64 t2 1)==(0:Int)),t3⟩:dV)]) ((hW bb (.inl rfl) (aj F0.o.2)).trans F0.o.2) ((dU.none _ _).snoc (lK W' ⟨tv,((bits .and .i64 t2 1)==(0:Int)),t3⟩) rfl) (show 1<=9223372036854775807 by decide)) (fun q hq=>by rcases hq with rfl|rfl;exact⟨.inr (by have:=F0.o.1;have:=uU.o;omega),N0.o⟩;exact⟨.inr (by have:=F1.o.1;have:=uU.o;omega),N1.o⟩) (fun q hq=> .inr (by have:=HQ.o.bel.size;have:=uU.o;omega)) HQ.o.bel HQ.o.bel.size (by have:=HS.o.n4;have:=HK.o;simp;omega) ?_;intro Zt wS mI qm LZ Cr;obtain⟨xz,wT,DJ⟩:=Kd.cg mI;have hlen:(M.f4++ [(⟨tv,((bits .and .i64 t2 1)==(0:Int)),t3⟩:dV)]).length=M.f4.length+1:=by simp
   rw[hlen]at DJ;subst DJ;have DU:Below X.heap.size X wS:=az cn.o qm;refine hK.o (Act.put _ (some 152) _) _ (iU.o _ qm) (fun ag=>?_);clear hK K;refine nm ?_;have oI:=HA.o.below DU;have hP:=(oI).put (pU:=(fun q=>dL q\/X.heap.size<=q)) (M':= {M with f4:=(M.f4++ [(⟨tv,((bits .and .i64 t2 1)==(0:Int)),t3⟩:dV)])}) (cs':= [.slice A0 M.f0.length c0,.slice A1 M.f1.length c1,.slice A2 M.f2.length c2,.slice A3 M.f3.length c3,.slice xz ((M.f4++ [(⟨tv,((bits .and .i64 t2 1)==(0:Int)),t3⟩:dV)])).length wT,.slice A5 M.f5.length c5,.slice A6 M.f6.length c6,.slice A7 M.f7.length c7]) 4 (.slice xz ((M.f4++ [(⟨tv,((bits .and .i64 t2 1)==(0:Int)),t3⟩:dV)])).length wT) rfl (fun W' hW=>Co ((oI).fk W' (fun q hq bI=>hW q (.inl hq) bI)) (by rw[hlen];exact(Kd.eN mI).2.1) (Kd.J2 (show Kd.N eE 55 _ Y0.heap.size (fun q=>dL q\/X.heap.size<=q) (.slice xz (M.f4++ [(⟨tv,((bits .and .i64 t2 1)==(0:Int)),t3⟩:dV)]).length wT) (M.f4++ [(⟨tv,((bits .and .i64 t2 1)==(0:Int)),t3⟩:dV)])from(by rw[hlen];exact mI)) W' (fun q hq bI=>hW q hq bI))) wA.o (by have sc:=HS.o.c;have ss:=HS.o.s;have sl:=HS.o.n4;exact HS.o.ad6 (by show(M.f4++ [(⟨tv,((bits .and .i64 t2 1)==(0:Int)),t3⟩:dV)]).length<=k+1;simp;omega));have zb:wS.cell? ⟨w.heap.size,4,none⟩=some (.slice A4 M.f4.length c4):=(aa (oI).box 4).trans rfl;have fb:wS.frozen? ⟨w.heap.size,4,none⟩=false:=ah (oI).box 4;rw[hlen]at hP;refine pu 19 153 ?_;refine la 20 ?_;refine dn ?_;obtain⟨W1,M1,P0,n0,d0,P1,n1,d1,P2,n2,d2,P3,n3,d3,P4,n4,d4,P5,n5,d5,P6,n6,d6,P7,n7,d7,hw1,HO,⟨q0,q1,q2,q3,q4,q5,q6,q7⟩,⟨z0,z1,z2,z3,z4,z5,z6,z7⟩,k0,k1,k2,k3,k4,k5,k6,k7⟩:=fU.named hP;rw[hw1];clear hw1;clear hP oI zb fb
   go_wp2_with fail
   refine bodyPost_ret (v:=_) (by simp[results,results36,go_sem,z0,z1,z2,z3,z4,z5,z6,z7]<;>rfl) rfl ?_;exact HO.o.qb LW.o
  ·skip
   go_wp2_with fail
   refine st 15 (fun w'=>w'.cell? ⟨w.heap.size,7,none⟩=some (.slice A7 M.f7.length c7)/\w'.cell? ⟨w.heap.size+1,1,none⟩=some (.int .i64 t1)) [14] ⟨m7,y1⟩ (fun ag=>?_);refine pu 1 157 ?_;refine tk 2 158 ag ?_;refine cZ 4 160 5 161 6 162 ?_;refine tk 7 163 ag ?_;refine pu 8 164 ?_;have hb0:Below X.heap.size X X.drew:=aX (ay _ _);have hy0:X.drew.heap.size=X.heap.size:=rfl;have hf0:=(Kd.mS (Kd.bS HF7.o PN.o));generalize X.drew=Y0 at hb0 hy0 hf0 ag⊢;have cn:=hd hb0;have uU:=hd hy0;have Ag:=hd hf0;have Ah:=hd (show∀q,dL q->q<Y0.heap.size from fun q hq=>by have:=Gf.o;have:=ql.o q hq;have:=uU.o;omega);clear hb0 hy0 hf0;have pV:=hd ag;clear ag;have iU:=hd (show∀W,Below Y0.heap.size Y0 W->W.cell? ⟨w.heap.size,7,none⟩=some (.slice A7 M.f7.length c7)/\W.cell? ⟨w.heap.size+1,1,none⟩=some (.int .i64 t1)from fun W hb=>⟨(((hb).cell (aR Y0 _ pV.o.1)).trans pV.o.1),(((hb).cell (aR Y0 _ pV.o.2)).trans pV.o.2)⟩);apply dm (J:= ∀(Y:World) (be:Nat) (bi:Nat) (bb:Nat) (P8:Option Addr) (n8:Nat) (k8:Nat),((_:Prop))->((_:Prop))->((_:Prop))->(_:Prop))
   case' _=>
    intro J;have Qr:=hd J;clear J
   apply dm (J:= ∀(Y:World) (be:Nat) (bi:Nat) (P8:Option Addr) (n8:Nat) (k8:Nat),((_:Prop))->((_:Prop))->((_:Prop))->(_:Prop))
   case' _=>
    intro J;have Gg:=hd J;clear J
   apply dm (J:= ∀(Y:World) (be:Nat) (bi:Nat) (bb:Nat),((_:Prop))->((_:Prop))->((_:Prop))->((_:Prop))->(_:Prop))
   case' _=>
    intro J;have TJ:=hd J;clear J
   apply dm (J:= ∀(Y:World) (be:Nat) (P8:Option Addr) (n8:Nat) (k8:Nat),((_:Prop))->((_:Prop))->((_:Prop))->(_:Prop))
   case' _=>
    intro J;have PU:=hd J;clear J
   apply dm (J:= ∀(Y:World) (be:Nat) (bi:Nat),((_:Prop))->((_:Prop))->((_:Prop))->((_:Prop))->(_:Prop))
   case' _=>
    intro J;have Gh:=hd J;clear J
   apply dm (J:= ∀(Y:World) (bi:Nat) (bb:Nat),((_:Prop))->((_:Prop))->(_:Prop))
   case' _=>
    intro J;have Zv:=hd J;clear J
   apply dm (J:= ∀(Y:World) (be:Nat),((_:Prop))->((_:Prop))->((_:Prop))->((_:Prop))->(_:Prop))
   case' _=>
    intro J;have PV:=hd J;clear J
   apply dm (J:= ∀(Y:World) (bi:Nat),((_:Prop))->((_:Prop))->(_:Prop))
   case' _=>
    intro J;have PW:=hd J;clear J
   apply dm (J:= ∀(Y:World),(Hid (Bk Y0 Y []))->(Y.cell? ⟨w.heap.size,7,none⟩=some (.slice A7 M.f7.length c7)/\Y.cell? ⟨w.heap.size+1,1,none⟩=some (.int .i64 t1))->(_:Prop))
   case' _=>
    intro J;have PX:=hd J;clear J
   case' _=>
    have HQ:Hid (Bk Y0 Y0 []):=hd (Bk.start Y0);have ag:=pV.o;exact PX.o Y0 HQ ag
   case' _=>
    intro Y HQ ag;refine tw 0 9 (some 156) (some 165) (fun K hK=>?_) (fun K hK=>?_)
    ·rw[if_pos (by rfl)]
     go_simp
     have hk:=Bk.jr HQ.o (.cells #[] 53);have hr:=Bk.nil (d:=kH) (e:=53) (B0:=dL) HQ.o;refine hK.o _ _ (iU.o _ hk.bel) (fun ag=>?_);clear hK K;generalize gA:Y.alloc (.cells #[] 53)=Y1 at hk hr ag⊢;obtain⟨be,gD⟩:=ex Y.heap.size;rw[<-gD]at hr⊢;have fK:=hd (show Y0.heap.size<=be from gD▸HQ.o.bel.size);clear HQ gD gA;have HQ:=hd hk;have HP:=hd hr;clear hk hr
     try refine nm ?_
     exact PV.o Y1 be HQ HP fK ag
    ·rw[if_pos (by rfl)]
     go_simp
     have hk:=Bk.alloc HQ.o ((.cells #[.int .u8 (IntKind.u8.wrap t2),.int .u8 (IntKind.u8.wrap t1)] 5));refine hK.o _ _ (iU.o _ hk.bel) (fun ag=>?_);clear hK K;generalize gA:Y.alloc ((.cells #[.int .u8 (IntKind.u8.wrap t2),.int .u8 (IntKind.u8.wrap t1)] 5))=Y1 at hk ag⊢;obtain⟨bi,hb⟩:=ex Y.heap.size;rw[<-hb]at hk⊢;clear hb gA HQ;have HQ:=hd hk;clear hk;refine pu 10 166 ?_
     try refine nm ?_
     exact PW.o Y1 bi HQ ag
   case' _=>
    intro Y bi HQ ag;refine tw 0 11 (some 156) (some 167) (fun K hK=>?_) (fun K hK=>?_)
    ·rw[if_pos (by rfl)]
     go_simp
     have hk:=Bk.jr HQ.o (.cells #[] 53);have hr:=Bk.nil (d:=kH) (e:=53) (B0:=dL) HQ.o;refine hK.o _ _ (iU.o _ hk.bel) (fun ag=>?_);clear hK K;generalize gA:Y.alloc (.cells #[] 53)=Y1 at hk hr ag⊢;obtain⟨be,gD⟩:=ex Y.heap.size;rw[<-gD]at hr⊢;have fK:=hd (show Y0.heap.size<=be from gD▸HQ.o.bel.size);clear HQ gD gA;have HQ:=hd hk;have HP:=hd hr;clear hk hr
     try refine nm ?_
     exact Gh.o Y1 be bi HQ HP fK ag
    ·rw[if_pos (by rfl)]
     go_simp
     have hk:=Bk.alloc HQ.o ((.cells #[.string ⟨#[111,100,100]⟩,.slice (some ⟨bi,0,none⟩) 2 2] 53));refine hK.o _ _ (iU.o _ hk.bel) (fun ag=>?_);clear hK K;generalize gA:Y.alloc ((.cells #[.string ⟨#[111,100,100]⟩,.slice (some ⟨bi,0,none⟩) 2 2] 53))=Y1 at hk ag⊢;obtain⟨bb,hb⟩:=ex Y.heap.size;rw[<-hb]at hk⊢;clear hb gA HQ;have HQ:=hd hk;clear hk
     try refine nm ?_
     exact Zv.o Y1 bi bb HQ ag
   case' _=>
    intro Y be HQ HP fK ag;refine tw 3 9 (some 159) (some 165) (fun K hK=>?_) (fun K hK=>?_)
    ·refine Kd.aH kH (w0:=Y0) (W:=Y) Y0.heap.size (by rfl) (.tmp 156) (.tmp 158) 35 53 (.agg #[.string ⟨#[]⟩,.slice none 0 0]) 40 (by rfl) underlying35 ym rfl (by decide) (by decide) (.slice (some ⟨be,0,none⟩) 0 0) [] M.f7 A7 M.f7.length c7 _ dL (by rfl) (by rfl) HP.o (Kd.bS Ag.o HQ.o.bel) (HQ.o.old HP.o Ah.o fK.o) HQ.o.fresh HQ.o.bel HQ.o.bel.size (by have:=HS.o.n7;have:=HK.o;simp;omega) ?_
     intro v8 Y1 hR hB hG hat;obtain⟨P8,k8,e8⟩:=Kd.cg hR;have hk:=Bk.grown HQ.o hB HP.o hG;clear HP HQ hG hat hB fK;generalize ([]++M.f7).length=n8 at e8;subst e8;refine hK.o (Act.put _ (some 159) _) _ (iU.o _ hk.bel) (fun ag=>?_);clear hK K;have HQ:=hd hk;have HP:=hd hR;clear hk hR
     try refine nm ?_
     exact PU.o Y1 be P8 n8 k8 HQ HP ag
    ·rw[if_pos (by rfl)]
     go_simp
     have hk:=Bk.alloc HQ.o ((.cells #[.int .u8 (IntKind.u8.wrap t2),.int .u8 (IntKind.u8.wrap t1)] 5));have hr:=nE.alloc HP.o ((.cells #[.int .u8 (IntKind.u8.wrap t2),.int .u8 (IntKind.u8.wrap t1)] 5));refine hK.o _ _ (iU.o _ hk.bel) (fun ag=>?_);clear hK K;generalize gA:Y.alloc ((.cells #[.int .u8 (IntKind.u8.wrap t2),.int .u8 (IntKind.u8.wrap t1)] 5))=Y1 at hk hr ag⊢;obtain⟨bi,hb⟩:=ex Y.heap.size;rw[<-hb]at hk hr⊢;clear hb gA HQ HP;have HQ:=hd hk;have HP:=hd hr;clear hk hr;refine pu 10 166 ?_
     try refine nm ?_
     exact Gh.o Y1 be bi HQ HP fK ag
   case' _=>
    intro Y bi bb HQ ag;refine on 0 (some 156) (fun K hK=>?_);rw[if_pos (by rfl)]
    go_simp
    have hk:=Bk.jr HQ.o (.cells #[] 53);have hr:=Bk.nil (d:=kH) (e:=53) (B0:=dL) HQ.o;refine hK.o _ _ (iU.o _ hk.bel) (fun ag=>?_);clear hK K;generalize gA:Y.alloc (.cells #[] 53)=Y1 at hk hr ag⊢;obtain⟨be,gD⟩:=ex Y.heap.size;rw[<-gD]at hr⊢;have fK:=hd (show Y0.heap.size<=be from gD▸HQ.o.bel.size);clear HQ gD gA;have HQ:=hd hk;have HP:=hd hr;clear hk hr
    try refine nm ?_
    exact TJ.o Y1 be bi bb HQ HP fK ag
   case' _=>
    intro Y be bi HQ HP fK ag;refine tw 3 11 (some 159) (some 167) (fun K hK=>?_) (fun K hK=>?_)
    ·refine Kd.aH kH (w0:=Y0) (W:=Y) Y0.heap.size (by rfl) (.tmp 156) (.tmp 158) 35 53 (.agg #[.string ⟨#[]⟩,.slice none 0 0]) 40 (by rfl) underlying35 ym rfl (by decide) (by decide) (.slice (some ⟨be,0,none⟩) 0 0) [] M.f7 A7 M.f7.length c7 _ dL (by rfl) (by rfl) HP.o (Kd.bS Ag.o HQ.o.bel) (HQ.o.old HP.o Ah.o fK.o) HQ.o.fresh HQ.o.bel HQ.o.bel.size (by have:=HS.o.n7;have:=HK.o;simp;omega) ?_
     intro v8 Y1 hR hB hG hat;obtain⟨P8,k8,e8⟩:=Kd.cg hR;have hk:=Bk.grown HQ.o hB HP.o hG;clear HP HQ hG hat hB fK;generalize ([]++M.f7).length=n8 at e8;subst e8;refine hK.o (Act.put _ (some 159) _) _ (iU.o _ hk.bel) (fun ag=>?_);clear hK K;have HQ:=hd hk;have HP:=hd hR;clear hk hR
     try refine nm ?_
     exact Gg.o Y1 be bi P8 n8 k8 HQ HP ag
    ·rw[if_pos (by rfl)]
     go_simp
     have hk:=Bk.alloc HQ.o ((.cells #[.string ⟨#[111,100,100]⟩,.slice (some ⟨bi,0,none⟩) 2 2] 53));have hr:=nE.alloc HP.o ((.cells #[.string ⟨#[111,100,100]⟩,.slice (some ⟨bi,0,none⟩) 2 2] 53));refine hK.o _ _ (iU.o _ hk.bel) (fun ag=>?_);clear hK K;generalize gA:Y.alloc ((.cells #[.string ⟨#[111,100,100]⟩,.slice (some ⟨bi,0,none⟩) 2 2] 53))=Y1 at hk hr ag⊢;obtain⟨bb,hb⟩:=ex Y.heap.size;rw[<-hb]at hk hr⊢;clear hb gA HQ HP;have HQ:=hd hk;have HP:=hd hr;clear hk hr
     try refine nm ?_
     exact TJ.o Y1 be bi bb HQ HP fK ag
   case' _=>
    intro Y be P8 n8 k8 HQ HP ag;refine on 9 (some 165) (fun K hK=>?_);rw[if_pos (by rfl)]
    go_simp
    have hk:=Bk.alloc HQ.o ((.cells #[.int .u8 (IntKind.u8.wrap t2),.int .u8 (IntKind.u8.wrap t1)] 5));have hr:=nE.alloc HP.o ((.cells #[.int .u8 (IntKind.u8.wrap t2),.int .u8 (IntKind.u8.wrap t1)] 5));refine hK.o _ _ (iU.o _ hk.bel) (fun ag=>?_);clear hK K;generalize gA:Y.alloc ((.cells #[.int .u8 (IntKind.u8.wrap t2),.int .u8 (IntKind.u8.wrap t1)] 5))=Y1 at hk hr ag⊢;obtain⟨bi,hb⟩:=ex Y.heap.size;rw[<-hb]at hk hr⊢;clear hb gA HQ HP;have HQ:=hd hk;have HP:=hd hr;clear hk hr;refine pu 10 166 ?_
    try refine nm ?_
    exact Gg.o Y1 be bi P8 n8 k8 HQ HP ag
   case' _=>
    intro Y be bi bb HQ HP fK ag;refine on 3 (some 159) (fun K hK=>?_);refine Kd.aH kH (w0:=Y0) (W:=Y) Y0.heap.size (by rfl) (.tmp 156) (.tmp 158) 35 53 (.agg #[.string ⟨#[]⟩,.slice none 0 0]) 40 (by rfl) underlying35 ym rfl (by decide) (by decide) (.slice (some ⟨be,0,none⟩) 0 0) [] M.f7 A7 M.f7.length c7 _ dL (by rfl) (by rfl) HP.o (Kd.bS Ag.o HQ.o.bel) (HQ.o.old HP.o Ah.o fK.o) HQ.o.fresh HQ.o.bel HQ.o.bel.size (by have:=HS.o.n7;have:=HK.o;simp;omega) ?_;intro v8 Y1 hR hB hG hat;obtain⟨P8,k8,e8⟩:=Kd.cg hR;have hk:=Bk.grown HQ.o hB HP.o hG;clear HP HQ hG hat hB fK;generalize ([]++M.f7).length=n8 at e8;subst e8;refine hK.o (Act.put _ (some 159) _) _ (iU.o _ hk.bel) (fun ag=>?_);clear hK K;have HQ:=hd hk;have HP:=hd hR;clear hk hR
    try refine nm ?_
    exact Qr.o Y1 be bi bb P8 n8 k8 HQ HP ag
   case' _=>
    intro Y be bi P8 n8 k8 HQ HP ag;refine on 11 (some 167) (fun K hK=>?_);rw[if_pos (by rfl)]
    go_simp
    have hk:=Bk.alloc HQ.o ((.cells #[.string ⟨#[111,100,100]⟩,.slice (some ⟨bi,0,none⟩) 2 2] 53));have hr:=nE.alloc HP.o ((.cells #[.string ⟨#[111,100,100]⟩,.slice (some ⟨bi,0,none⟩) 2 2] 53));refine hK.o _ _ (iU.o _ hk.bel) (fun ag=>?_);clear hK K;generalize gA:Y.alloc ((.cells #[.string ⟨#[111,100,100]⟩,.slice (some ⟨bi,0,none⟩) 2 2] 53))=Y1 at hk hr ag⊢;obtain⟨bb,hb⟩:=ex Y.heap.size;rw[<-hb]at hk hr⊢;clear hb gA HQ HP;have HQ:=hd hk;have HP:=hd hr;clear hk hr
    try refine nm ?_
    exact Qr.o Y1 be bi bb P8 n8 k8 HQ HP ag
   intro Y be bi bb P8 n8 k8 HQ HP ag;have hq:=HQ.o;have hp:=HP.o;have F0:=hd (hq.blk _ (jy));have N0:=hd (nE.own hp _ (jy));have F1:=hd (hq.blk _ (List.mem_cons_of_mem _ (jy)));have N1:=hd (nE.own hp _ (List.mem_cons_of_mem _ (jy)));clear hq hp;refine on 12 (some 168) (fun K hK=>?_);refine Kd.aH kH (w0:=Y0) (W:=Y) Y0.heap.size (by rfl) (.tmp 159) (.tmp 167) 35 53 (.agg #[.string ⟨#[]⟩,.slice none 0 0]) 40 (by rfl) underlying35 ym rfl (by decide) (by decide) (.slice P8 n8 k8) M.f7 [⟨⟨#[111,100,100]⟩,[(IntKind.u8.wrap t2),(IntKind.u8.wrap t1)]⟩] (some ⟨bb,0,none⟩) 1 1 (fun q=>dL q\/X.heap.size<=q) (fun q=>q=bb\/q=bi) (by rfl) (by rfl) (Kd.mU HP.o (fun q hq=>hq.1.imp id (fun h=>by have:=uU.o;omega))) (fun W' hW=>oB (cells:= [.string ⟨#[111,100,100]⟩,.slice (some ⟨bi,0,none⟩) 2 2]) (xs:= [(⟨⟨#[111,100,100]⟩,[(IntKind.u8.wrap t2),(IntKind.u8.wrap t1)]⟩:jA)]) ((hW bb (.inl rfl) (aj F0.o.2)).trans F0.o.2) ((dU.none _ _).snoc (xA W' ⟨⟨#[111,100,100]⟩,[(IntKind.u8.wrap t2),(IntKind.u8.wrap t1)]⟩ (aU 2) (pS (l:= [(IntKind.u8.wrap t2),(IntKind.u8.wrap t1)]) ((hW bi (.inr rfl) (aj F1.o.2)).trans F1.o.2) (show 2<=9223372036854775807 by decide))) rfl) (show 1<=9223372036854775807 by decide)) (fun q hq=>by rcases hq with rfl|rfl;exact⟨.inr (by have:=F0.o.1;have:=uU.o;omega),N0.o⟩;exact⟨.inr (by have:=F1.o.1;have:=uU.o;omega),N1.o⟩) (fun q hq=> .inr (by have:=HQ.o.bel.size;have:=uU.o;omega)) HQ.o.bel HQ.o.bel.size (by have:=HS.o.n7;have:=HK.o;simp;omega) ?_;intro Zt wS mI qm LZ Cr;obtain⟨xz,wT,DJ⟩:=Kd.cg mI;have hlen:(M.f7++ [(⟨⟨#[111,100,100]⟩,[(IntKind.u8.wrap t2),(IntKind.u8.wrap t1)]⟩:jA)]).length=M.f7.length+1:=by simp
   rw[hlen]at DJ;subst DJ;have DU:Below X.heap.size X wS:=az cn.o qm;refine hK.o (Act.put _ (some 168) _) _ (iU.o _ qm) (fun ag=>?_);clear hK K;refine nm ?_;have oI:=HA.o.below DU;have hP:=(oI).put (pU:=(fun q=>dL q\/X.heap.size<=q)) (M':= {M with f7:=(M.f7++ [(⟨⟨#[111,100,100]⟩,[(IntKind.u8.wrap t2),(IntKind.u8.wrap t1)]⟩:jA)])}) (cs':= [.slice A0 M.f0.length c0,.slice A1 M.f1.length c1,.slice A2 M.f2.length c2,.slice A3 M.f3.length c3,.slice A4 M.f4.length c4,.slice A5 M.f5.length c5,.slice A6 M.f6.length c6,.slice xz ((M.f7++ [(⟨⟨#[111,100,100]⟩,[(IntKind.u8.wrap t2),(IntKind.u8.wrap t1)]⟩:jA)])).length wT]) 7 (.slice xz ((M.f7++ [(⟨⟨#[111,100,100]⟩,[(IntKind.u8.wrap t2),(IntKind.u8.wrap t1)]⟩:jA)])).length wT) rfl (fun W' hW=>Cq ((oI).fk W' (fun q hq bI=>hW q (.inl hq) bI)) (by rw[hlen];exact(Kd.eN mI).2.1) (Kd.J2 (show Kd.N kH 53 _ Y0.heap.size (fun q=>dL q\/X.heap.size<=q) (.slice xz (M.f7++ [(⟨⟨#[111,100,100]⟩,[(IntKind.u8.wrap t2),(IntKind.u8.wrap t1)]⟩:jA)]).length wT) (M.f7++ [(⟨⟨#[111,100,100]⟩,[(IntKind.u8.wrap t2),(IntKind.u8.wrap t1)]⟩:jA)])from(by rw[hlen];exact mI)) W' (fun q hq bI=>hW q hq bI))) wA.o (by have sc:=HS.o.c;have ss:=HS.o.s;have sl:=HS.o.n7;exact HS.o.ad9 (by show(M.f7++ [(⟨⟨#[111,100,100]⟩,[(IntKind.u8.wrap t2),(IntKind.u8.wrap t1)]⟩:jA)]).length<=k+1;simp;omega));have zb:wS.cell? ⟨w.heap.size,7,none⟩=some (.slice A7 M.f7.length c7):=(aa (oI).box 7).trans rfl;have fb:wS.frozen? ⟨w.heap.size,7,none⟩=false:=ah (oI).box 7;rw[hlen]at hP;refine pu 13 169 ?_;refine la 14 ?_;refine dn ?_;obtain⟨W1,M1,P0,n0,d0,P1,n1,d1,P2,n2,d2,P3,n3,d3,P4,n4,d4,P5,n5,d5,P6,n6,d6,P7,n7,d7,hw1,HO,⟨q0,q1,q2,q3,q4,q5,q6,q7⟩,⟨z0,z1,z2,z3,z4,z5,z6,z7⟩,k0,k1,k2,k3,k4,k5,k6,k7⟩:=fU.named hP;rw[hw1];clear hw1;clear hP oI zb fb
   go_wp2_with fail
   refine bodyPost_ret (v:=_) (by simp[results,results36,go_sem,z0,z1,z2,z3,z4,z5,z6,z7]<;>rfl) rfl ?_;exact HO.o.qb LW.o
  ·skip
   by_cases hz:0<M.f2.length
   case' neg=>
    have gz: ¬((M.f2.length:Int)>0):=by omega
    have HO:=hd (HA.o.more (pU:=(fun q=>dL q\/X.heap.size<=q)) (HS.o.more (Nat.le_succ k)) (fun q hq=> .inl hq) wA.o);obtain⟨⟨z0,z1,z2,z3,z4,z5,z6,z7⟩,k0,k1,k2,k3,k4,k5,k6,k7⟩:=HO.o.tail
    go_wp2_with fail
    refine bodyPost_ret (v:=_) (by simp[results,results36,go_sem,z0,z1,z2,z3,z4,z5,z6,z7]<;>rfl) rfl ?_;exact HO.o.qb LW.o
   case' pos=>
    first|exact absurd hz (by have:=UB.o;omega)|skip
    all_goals
     have Eb:=hd (HFZ.o hz);have m2e:=ak (o:= .cells #[] 59) m2;have gD:=af (ay X.heap.size X) (.cells #[] 59);have HN:Hid (Kd.N fL 59 (X.alloc (.cells #[] 59)) X.heap.size (fun q=>dL q\/X.heap.size<=q) (.slice (some ⟨X.heap.size,0,none⟩) 0 0) []):=hd (qa (alloc_at rfl) (aU _) (fun k hk=> .inr hk));have PO:=hd (Kd.bS Md.o (az PN.o gD));have fK:=hd gD;have hbz:X.heap.size<=(X.alloc (.cells #[] 59)).heap.size:=by simp
     have IB:=hd (show∀q,dL q->(dL q\/X.heap.size<=q)/\some q≠(Value.slice (some ⟨X.heap.size,0,none⟩) 0 0).ownBlock from fun q hq=>⟨.inl hq,fun e=>by have:=Gf.o;have:=ql.o q hq;simp[Value.ownBlock]at e;omega⟩);have uT:(([]:List iB).length+M.f2.length)*56<=140737488355328:=by have:=HS.o.n2;have:=HK.o;simp;omega
     clear gD;have gz:((M.f2.length:Int)>0):=by omega
     go_wp2_with (first|(at_builtin;(refine Kd.gj fL (w0:=X) X.heap.size rfl (.tmp 188) (.tmp 190) 30 59 (.agg #[.int .i64 0,.slice none 0 0,.slice none 0 0]) 56 rfl underlying30 yg rfl (dG _) (dG _) (.slice (some ⟨X.heap.size,0,none⟩) 0 0) [] M.f2 A2 M.f2.length c2 (fun q=>dL q\/X.heap.size<=q) dL rfl rfl HN.o PO.o IB.o (fun q hq=> .inr (cG hbz hq)) fK.o hbz uT ?_);intro v9 w9 hR hB hG hat;have hR:Kd.N fL 59 w9 X.heap.size (fun q=>dL q\/X.heap.size<=q) v9 M.f2:=hR;obtain⟨g,k9,e9,Hz,-⟩:=Kd.yy hR (by have:=Eb.o;omega);subst e9;have DO:=(hB.block _ (aj Qq.o)).trans Qq.o;have xX:=hd Hz;have od:=hd hR;have iZ:=hd hB;have tu:=hd DO;clear hR hB hG hat uT hbz Hz DO))
     obtain⟨fe,B1,e1,B2,e2,hmem,hcc,hfr,b1,b2,TH,hF2⟩:=z8 od.o Eb.o;have IG:=hd hmem;have yN:=hd hcc;have Qb:=hd hfr;have tA:=hd (And.intro b1 b2);have L4:=hd TH;have HFI:=hd hF2;clear hmem hcc hfr b1 b2 TH hF2;have Zk:w9.cell? ⟨g,f*3+1,none⟩=some (.slice B1 fe.f1.length e1):=yN.o 1 _ rfl;have i0:(0:Int)<=(f:Int):=by omega
     have i1:(f:Int)<(M.f2.length:Int):=by have:=Eb.o;omega
     have i2:((f:Int)).toNat=f:=dF f;have Zp:w9.cell? ⟨w.heap.size+1,1,none⟩=some (.int .i64 t1):=(aa tu.o 1).trans rfl;have Zq:w9.cell? ⟨w.heap.size+1,2,none⟩=some (.int .i64 t2):=(aa tu.o 2).trans rfl;refine st 21 (fun w'=>w'.cell? ⟨g,f*3+1,none⟩=some (.slice B1 fe.f1.length e1)/\w'.cell? ⟨w.heap.size+1,1,none⟩=some (.int .i64 t1)/\w'.cell? ⟨w.heap.size+1,2,none⟩=some (.int .i64 t2)) [20] ⟨Zk,Zp,Zq⟩ (fun ag=>?_);refine cZ 0 192 1 193 3 195 ?_;refine cZ 4 196 5 197 6 198 ?_;refine tk 7 199 ag ?_;refine pu2 9 201 11 203 ?_;refine tk 12 204 ag ?_;have hb0:Below w9.heap.size w9 w9.drew:=aX (ay _ _);have hy0:w9.drew.heap.size=w9.heap.size:=rfl;have hf0:Kd.F (Kd.int .i64) w9.drew (fun q=>q<w9.drew.heap.size) B1 fe.f1.length fe.f1:=Kd.Cx (Kd.rM (Kd.mS L4.o)) (fun q hq=>hq.2);generalize w9.drew=Y0 at hb0 hy0 hf0 ag⊢;have cn:=hd hb0;have uU:=hd hy0;have Ag:=hd hf0;have Ah:=hd (show∀q,q<Y0.heap.size->q<Y0.heap.size from fun _ h=>h);clear hb0 hy0 hf0;have pV:=hd ag;clear ag;have iU:=hd (show∀W,Below Y0.heap.size Y0 W->W.cell? ⟨g,f*3+1,none⟩=some (.slice B1 fe.f1.length e1)/\W.cell? ⟨w.heap.size+1,1,none⟩=some (.int .i64 t1)/\W.cell? ⟨w.heap.size+1,2,none⟩=some (.int .i64 t2)from fun W hb=>⟨(((hb).cell (aR Y0 _ pV.o.1)).trans pV.o.1),(((hb).cell (aR Y0 _ pV.o.2.1)).trans pV.o.2.1),(((hb).cell (aR Y0 _ pV.o.2.2)).trans pV.o.2.2)⟩);apply dm (J:= ∀(Y:World) (be:Nat) (bi:Nat) (fi:Nat) (tv:Int) (bb:Nat) (P8:Option Addr) (n8:Nat) (k8:Nat),((_:Prop))->((_:Prop))->((_:Prop))->((_:Prop))->(_:Prop))
     case' _=>
      intro J;have J25:=hd J;clear J
     apply dm (J:= ∀(Y:World) (be:Nat) (bi:Nat) (fi:Nat) (tv:Int) (P8:Option Addr) (n8:Nat) (k8:Nat),((_:Prop))->((_:Prop))->((_:Prop))->((_:Prop))->(_:Prop))
     case' _=>
      intro J;have J24:=hd J;clear J
     apply dm (J:= ∀(Y:World) (be:Nat) (bi:Nat) (fi:Nat) (P8:Option Addr) (n8:Nat) (k8:Nat),((_:Prop))->((_:Prop))->((_:Prop))->((_:Prop))->(_:Prop))
     case' _=>
      intro J;have TI:=hd J;clear J
     apply dm (J:= ∀(Y:World) (be:Nat) (fi:Nat) (P8:Option Addr) (n8:Nat) (k8:Nat),((_:Prop))->((_:Prop))->((_:Prop))->((_:Prop))->(_:Prop))
     case' _=>
      intro J;have Qr:=hd J;clear J
     apply dm (J:= ∀(Y:World) (be:Nat) (bi:Nat) (P8:Option Addr) (n8:Nat) (k8:Nat),((_:Prop))->((_:Prop))->((_:Prop))->(_:Prop))
     case' _=>
      intro J;have Gg:=hd J;clear J
     apply dm (J:= ∀(Y:World) (be:Nat) (P8:Option Addr) (n8:Nat) (k8:Nat),((_:Prop))->((_:Prop))->((_:Prop))->(_:Prop))
     case' _=>
      intro J;have PU:=hd J;clear J
     apply dm (J:= ∀(Y:World) (be:Nat) (bi:Nat),((_:Prop))->((_:Prop))->((_:Prop))->((_:Prop))->(_:Prop))
     case' _=>
      intro J;have Gh:=hd J;clear J
     apply dm (J:= ∀(Y:World) (be:Nat),((_:Prop))->((_:Prop))->((_:Prop))->((_:Prop))->(_:Prop))
     case' _=>
      intro J;have PV:=hd J;clear J
     apply dm (J:= ∀(Y:World) (bi:Nat),((_:Prop))->((_:Prop))->(_:Prop))
     case' _=>
      intro J;have PW:=hd J;clear J
     apply dm (J:= ∀(Y:World),(Hid (Bk Y0 Y []))->(Y.cell? ⟨g,f*3+1,none⟩=some (.slice B1 fe.f1.length e1)/\Y.cell? ⟨w.heap.size+1,1,none⟩=some (.int .i64 t1)/\Y.cell? ⟨w.heap.size+1,2,none⟩=some (.int .i64 t2))->(_:Prop))
     case' _=>
      intro J;have PX:=hd J;clear J
     case' _=>
      have HQ:Hid (Bk Y0 Y0 []):=hd (Bk.start Y0);have ag:=pV.o;exact PX.o Y0 HQ ag
     case' _=>
      intro Y HQ ag;refine tw 2 10 (some 194) (some 202) (fun K hK=>?_) (fun K hK=>?_)
      ·rw[if_pos (by rfl)]
       go_simp
       have hk:=Bk.jr HQ.o (.cells #[] 3);have hr:=Bk.nil (d:=(Kd.int .i64)) (e:=3) (B0:=(fun q=>q<Y0.heap.size)) HQ.o;refine hK.o _ _ (iU.o _ hk.bel) (fun ag=>?_);clear hK K;generalize gA:Y.alloc (.cells #[] 3)=Y1 at hk hr ag⊢;obtain⟨be,gD⟩:=ex Y.heap.size;rw[<-gD]at hr⊢;have fK:=hd (show Y0.heap.size<=be from gD▸HQ.o.bel.size);clear HQ gD gA;have HQ:=hd hk;have HP:=hd hr;clear hk hr
       try refine nm ?_
       exact PV.o Y1 be HQ HP fK ag
      ·rw[if_pos (by rfl)]
       go_simp
       have hk:=Bk.alloc HQ.o ((.cells #[.int .i64 127,.int .i64 124,.int .i64 t2] 3));refine hK.o _ _ (iU.o _ hk.bel) (fun ag=>?_);clear hK K;generalize gA:Y.alloc ((.cells #[.int .i64 127,.int .i64 124,.int .i64 t2] 3))=Y1 at hk ag⊢;obtain⟨bi,hb⟩:=ex Y.heap.size;rw[<-hb]at hk⊢;clear hb gA HQ;have HQ:=hd hk;clear hk
       try refine nm ?_
       exact PW.o Y1 bi HQ ag
     case' _=>
      intro Y bi HQ ag;refine on 2 (some 194) (fun K hK=>?_);rw[if_pos (by rfl)]
      go_simp
      have hk:=Bk.jr HQ.o (.cells #[] 3);have hr:=Bk.nil (d:=(Kd.int .i64)) (e:=3) (B0:=(fun q=>q<Y0.heap.size)) HQ.o;refine hK.o _ _ (iU.o _ hk.bel) (fun ag=>?_);clear hK K;generalize gA:Y.alloc (.cells #[] 3)=Y1 at hk hr ag⊢;obtain⟨be,gD⟩:=ex Y.heap.size;rw[<-gD]at hr⊢;have fK:=hd (show Y0.heap.size<=be from gD▸HQ.o.bel.size);clear HQ gD gA;have HQ:=hd hk;have HP:=hd hr;clear hk hr
      try refine nm ?_
      exact Gh.o Y1 be bi HQ HP fK ag
     case' _=>
      intro Y be HQ HP fK ag;refine tw 8 10 (some 200) (some 202) (fun K hK=>?_) (fun K hK=>?_)
      ·refine Kd.aH (Kd.int .i64) (w0:=Y0) (W:=Y) Y0.heap.size (by rfl) (.tmp 194) (.tmp 199) 23 3 (.int .i64 0) 8 (by rfl) underlying23 cQ rfl (by decide) (by decide) (.slice (some ⟨be,0,none⟩) 0 0) [] fe.f1 B1 fe.f1.length e1 _ (fun q=>q<Y0.heap.size) (by rfl) (by rfl) HP.o (Kd.bS Ag.o HQ.o.bel) (HQ.o.old HP.o Ah.o fK.o) HQ.o.fresh HQ.o.bel HQ.o.bel.size (by have h:=(HS.o.c fe IG.o).1;have:=HK.o;simp;omega) ?_
       intro v8 Y1 hR hB hG hat;obtain⟨P8,k8,e8⟩:=Kd.cg hR;have hk:=Bk.grown HQ.o hB HP.o hG;clear HP HQ hG hat hB fK;generalize ([]++fe.f1).length=n8 at e8;subst e8;refine hK.o (Act.put _ (some 200) _) _ (iU.o _ hk.bel) (fun ag=>?_);clear hK K;have HQ:=hd hk;have HP:=hd hR;clear hk hR
       try refine nm ?_
       exact PU.o Y1 be P8 n8 k8 HQ HP ag
      ·rw[if_pos (by rfl)]
       go_simp
       have hk:=Bk.alloc HQ.o ((.cells #[.int .i64 127,.int .i64 124,.int .i64 t2] 3));have hr:=nE.alloc HP.o ((.cells #[.int .i64 127,.int .i64 124,.int .i64 t2] 3));refine hK.o _ _ (iU.o _ hk.bel) (fun ag=>?_);clear hK K;generalize gA:Y.alloc ((.cells #[.int .i64 127,.int .i64 124,.int .i64 t2] 3))=Y1 at hk hr ag⊢;obtain⟨bi,hb⟩:=ex Y.heap.size;rw[<-hb]at hk hr⊢;clear hb gA HQ HP;have HQ:=hd hk;have HP:=hd hr;clear hk hr
       try refine nm ?_
       exact Gh.o Y1 be bi HQ HP fK ag
     case' _=>
      intro Y be bi HQ HP fK ag;refine on 8 (some 200) (fun K hK=>?_);refine Kd.aH (Kd.int .i64) (w0:=Y0) (W:=Y) Y0.heap.size (by rfl) (.tmp 194) (.tmp 199) 23 3 (.int .i64 0) 8 (by rfl) underlying23 cQ rfl (by decide) (by decide) (.slice (some ⟨be,0,none⟩) 0 0) [] fe.f1 B1 fe.f1.length e1 _ (fun q=>q<Y0.heap.size) (by rfl) (by rfl) HP.o (Kd.bS Ag.o HQ.o.bel) (HQ.o.old HP.o Ah.o fK.o) HQ.o.fresh HQ.o.bel HQ.o.bel.size (by have h:=(HS.o.c fe IG.o).1;have:=HK.o;simp;omega) ?_;intro v8 Y1 hR hB hG hat;obtain⟨P8,k8,e8⟩:=Kd.cg hR;have hk:=Bk.grown HQ.o hB HP.o hG;clear HP HQ hG hat hB fK;generalize ([]++fe.f1).length=n8 at e8;subst e8;refine hK.o (Act.put _ (some 200) _) _ (iU.o _ hk.bel) (fun ag=>?_);clear hK K;have HQ:=hd hk;have HP:=hd hR;clear hk hR
      try refine nm ?_
      exact Gg.o Y1 be bi P8 n8 k8 HQ HP ag
     case' _=>
      intro Y be P8 n8 k8 HQ HP ag;refine tw 10 13 (some 202) (some 205) (fun K hK=>?_) (fun K hK=>?_)
      ·rw[if_pos (by rfl)]
       go_simp
       have hk:=Bk.alloc HQ.o ((.cells #[.int .i64 127,.int .i64 124,.int .i64 t2] 3));have hr:=nE.alloc HP.o ((.cells #[.int .i64 127,.int .i64 124,.int .i64 t2] 3));refine hK.o _ _ (iU.o _ hk.bel) (fun ag=>?_);clear hK K;generalize gA:Y.alloc ((.cells #[.int .i64 127,.int .i64 124,.int .i64 t2] 3))=Y1 at hk hr ag⊢;obtain⟨bi,hb⟩:=ex Y.heap.size;rw[<-hb]at hk hr⊢;clear hb gA HQ HP;have HQ:=hd hk;have HP:=hd hr;clear hk hr
       try refine nm ?_
       exact Gg.o Y1 be bi P8 n8 k8 HQ HP ag
      ·refine ge (rY t1 3 (by decide) (by decide) Y) ?_
       rintro e w'⟨⟨fi,hfi,rfl⟩,hw⟩;rw[hw];clear hw;have wB:=hd (show fi<3 by omega);clear hfi;refine⟨_,rfl,?_⟩;refine hK.o _ _ ag (fun ag=>?_);clear hK K;obtain⟨Y1,rfl⟩:=ex Y;have hk:=HQ.o;have hr:=HP.o;clear HQ HP;have HQ:=hd hk;have HP:=hd hr;clear hk hr
       try refine nm ?_
       exact Qr.o Y1 be fi P8 n8 k8 HQ HP wB ag
     case' _=>
      intro Y be bi P8 n8 k8 HQ HP ag;refine on 13 (some 205) (fun K hK=>?_);refine ge (rY t1 3 (by decide) (by decide) Y) ?_;rintro e w'⟨⟨fi,hfi,rfl⟩,hw⟩;rw[hw];clear hw;have wB:=hd (show fi<3 by omega);clear hfi;refine⟨_,rfl,?_⟩;refine hK.o _ _ ag (fun ag=>?_);clear hK K;obtain⟨Y1,rfl⟩:=ex Y;have hk:=HQ.o;have hr:=HP.o;clear HQ HP;have HQ:=hd hk;have HP:=hd hr;clear hk hr;have j0:(0:Int)<=(fi:Int):=by omega
      have j1:(fi:Int)<3:=by have:=wB.o;omega
      have j2:((fi:Int)).toNat=fi:=dF fi;refine pu 14 206 ?_
      try refine nm ?_
      exact TI.o Y1 be bi fi P8 n8 k8 HQ HP wB ag
     case' _=>
      intro Y be fi P8 n8 k8 HQ HP wB ag;refine on 10 (some 202) (fun K hK=>?_);rw[if_pos (by rfl)]
      go_simp
      have hk:=Bk.alloc HQ.o ((.cells #[.int .i64 127,.int .i64 124,.int .i64 t2] 3));have hr:=nE.alloc HP.o ((.cells #[.int .i64 127,.int .i64 124,.int .i64 t2] 3));refine hK.o _ _ (iU.o _ hk.bel) (fun ag=>?_);clear hK K;generalize gA:Y.alloc ((.cells #[.int .i64 127,.int .i64 124,.int .i64 t2] 3))=Y1 at hk hr ag⊢;obtain⟨bi,hb⟩:=ex Y.heap.size;rw[<-hb]at hk hr⊢;clear hb gA HQ HP;have HQ:=hd hk;have HP:=hd hr;clear hk hr;have j0:(0:Int)<=(fi:Int):=by omega
      have j1:(fi:Int)<3:=by have:=wB.o;omega
      have j2:((fi:Int)).toNat=fi:=dF fi;refine pu 14 206 ?_
      try refine nm ?_
      exact TI.o Y1 be bi fi P8 n8 k8 HQ HP wB ag
     case' _=>
      intro Y be bi fi P8 n8 k8 HQ HP wB ag;refine on 15 (some 207) (fun K hK=>?_);obtain⟨tv,VU⟩: ∃v:Int,Y.cell? ⟨bi,fi,none⟩=some (.int .i64 v):=⟨_,(aa (HQ.o.blk _ jy).2 fi).trans (pQ [127,124,t2] fi (by have:=wB.o;simp;omega))⟩;rw[if_pos (by rfl)]
      go_simp
      refine hK.o _ _ ag (fun ag=>?_);clear hK K VU;obtain⟨Y1,rfl⟩:=ex Y;have hk:=HQ.o;have hr:=HP.o;clear HQ HP;have HQ:=hd hk;have HP:=hd hr;clear hk hr
      try refine nm ?_
      exact J24.o Y1 be bi fi tv P8 n8 k8 HQ HP wB ag
     case' _=>
      intro Y be bi fi tv P8 n8 k8 HQ HP wB ag;refine on 16 (some 208) (fun K hK=>?_);rw[if_pos (by rfl)]
      go_simp
      have hk:=Bk.alloc HQ.o ((.cells #[.int .i64 tv] 3));have hr:=nE.alloc HP.o ((.cells #[.int .i64 tv] 3));refine hK.o _ _ (iU.o _ hk.bel) (fun ag=>?_);clear hK K;generalize gA:Y.alloc ((.cells #[.int .i64 tv] 3))=Y1 at hk hr ag⊢;obtain⟨bb,hb⟩:=ex Y.heap.size;rw[<-hb]at hk hr⊢;clear hb gA HQ HP;have HQ:=hd hk;have HP:=hd hr;clear hk hr
      try refine nm ?_
      exact J25.o Y1 be bi fi tv bb P8 n8 k8 HQ HP wB ag
     intro Y be bi fi tv bb P8 n8 k8 HQ HP wB ag;have hq:=HQ.o;have hp:=HP.o;have F0:=hd (hq.blk _ (jy));have N0:=hd (nE.own hp _ (jy));have F1:=hd (hq.blk _ (List.mem_cons_of_mem _ (jy)));have N1:=hd (nE.own hp _ (List.mem_cons_of_mem _ (jy)));clear hq hp;refine on 17 (some 209) (fun K hK=>?_);refine Kd.aH (Kd.int .i64) (w0:=Y0) (W:=Y) Y0.heap.size (by rfl) (.tmp 200) (.tmp 208) 23 3 (.int .i64 0) 8 (by rfl) underlying23 cQ rfl (by decide) (by decide) (.slice P8 n8 k8) fe.f1 [tv] (some ⟨bb,0,none⟩) 1 1 (fun _=>True) (fun q=>q=bb\/q=bi) (by rfl) (by rfl) (Kd.mU HP.o (fun _ _=>trivial)) (fun W' hW=>pS (l:= [tv]) ((hW bb (.inl rfl) (aj F0.o.2)).trans F0.o.2) (show 1<=9223372036854775807 by decide)) (fun q hq=>by rcases hq with rfl|rfl;exact⟨trivial,N0.o⟩;exact⟨trivial,N1.o⟩) (fun q hq=>trivial) HQ.o.bel HQ.o.bel.size (by have h:=(HS.o.c fe IG.o).1;have:=HK.o;simp;omega) ?_;intro Zt wS mI qm LZ Cr;obtain⟨xz,wT,DJ⟩:=Kd.cg mI;have hlen:(fe.f1++ [tv]).length=fe.f1.length+1:=by simp
     rw[hlen]at DJ;subst DJ;have Qp:Below w9.heap.size w9 wS:=az cn.o qm;have hI7:=Kd.VQ mI;refine hK.o (Act.put _ (some 209) _) _ (iU.o _ qm) (fun ag=>?_);clear hK K;refine nm ?_;have Zr:=hd (Kd.oT od.o Qp);have zs:wS.cell? ⟨g,f*3+1,none⟩=some (.slice B1 fe.f1.length e1):=ag.1;have fs:wS.frozen? ⟨g,f*3+1,none⟩=false:=by obtain⟨_,_,_,_,_,_,_,VS,-⟩:=z8 Zr.o Eb.o;exact VS 1
     have Mh:=DT (j:=1) (u:= .slice xz (fe.f1++ [tv]).length wT) (x:=⟨fe.f0,fe.f1++ [tv],fe.f2⟩) (B1:=xz) (B2:=B2) (d1:=wT) (d2:=e2) (kK:=(fun q=>(dL q\/X.heap.size<=q)/\q≠g)) Zr.o Eb.o (c:= [.int .i64 fe.f0,.slice B1 fe.f1.length e1,.slice B2 fe.f2.length e2]) rfl (fun q v hv=>(Qp.cell (aR w9 _ (yN.o q v hv))).trans (yN.o q v hv)) (by decide) rfl (by show(fe.f1++ [tv]).length<=wT;rw[hlen];exact(Kd.eN mI).2.1) tA.o.2 (Kd.Cx (Kd.J2 (show Kd.N (Kd.int .i64) 3 wS Y0.heap.size (fun q=>Y0.heap.size<=q) (.slice xz (fe.f1++ [tv]).length wT) (fe.f1++ [tv])from by rw[hlen];exact hI7)) (fun q hq=>by have h1:=iZ.o.size;have h3:=uU.o;have hq:Y0.heap.size<=q:=hq;have h2:=Kd.J1 od.o g (by simp[Value.ownBlock]);exact⟨.inr (by omega),by omega⟩)) (Kd.bS HFI.o Qp) (fun q hq=>hq);rw[hlen]at Mh;have PR:=((HA.o.below iZ.o).below Qp).grown Mh.2 (fun q hq=>by injection hq with hq;have:=xX.o;have:=Gf.o;subst hq;exact⟨by omega,by omega,fun h=>by have:=ql.o _ h;omega,by omega⟩);have SI:=hd PR;have HNP:=hd Mh.1;clear PR Mh hI7 qm LZ Cr mI ag;refine pu2 18 210 19 211 ?_;refine la 20 ?_;refine dn ?_;clear zs fs Zk Zp Zq;have hP:=(SI.o).put (pU:=(fun q=>dL q\/X.heap.size<=q)) (M':= {M with f2:=(M.f2.set f ⟨fe.f0,fe.f1++ [tv],fe.f2⟩)}) (cs':= [.slice A0 M.f0.length c0,.slice A1 M.f1.length c1,.slice (some ⟨g,0,none⟩) ((M.f2.set f ⟨fe.f0,fe.f1++ [tv],fe.f2⟩)).length k9,.slice A3 M.f3.length c3,.slice A4 M.f4.length c4,.slice A5 M.f5.length c5,.slice A6 M.f6.length c6,.slice A7 M.f7.length c7]) 2 (.slice (some ⟨g,0,none⟩) ((M.f2.set f ⟨fe.f0,fe.f1++ [tv],fe.f2⟩)).length k9) rfl (fun W' hW=>wu ((SI.o).fk W' (fun q hq bI=>hW q (.inl hq) bI)) (by rw[List.length_set];exact(Kd.eN od.o).2.1) (Kd.J2 (show Kd.N fL 59 _ X.heap.size (fun q=>dL q\/X.heap.size<=q) (.slice (some ⟨g,0,none⟩) (M.f2.set f ⟨fe.f0,fe.f1++ [tv],fe.f2⟩).length k9) (M.f2.set f ⟨fe.f0,fe.f1++ [tv],fe.f2⟩)from by rw[List.length_set];exact HNP.o) W' (fun q hq bI=>hW q hq bI))) wA.o (by have sc:=HS.o.c;have ss:=HS.o.s;have sl:=HS.o.n2;exact HS.o.VO (by show(M.f2.set f ⟨fe.f0,fe.f1++ [tv],fe.f2⟩).length<=k+1;rw[List.length_set];omega) (by intro q hq;rcases List.mem_or_eq_of_mem_set hq with hq|rfl;have:=sc q hq;omega;have h:=sc fe IG.o;exact⟨by show(fe.f1++ [tv]).length<=k+1;rw[hlen];omega,by show fe.f2.length<=1000000+(k+1);omega⟩));have zb:(World.setCell wS ⟨g,f*3+1,none⟩ (.slice xz (fe.f1.length+1) wT)).cell? ⟨w.heap.size,2,none⟩=some (.slice A2 M.f2.length c2):=(aa (SI.o).box 2).trans rfl;have fb:(World.setCell wS ⟨g,f*3+1,none⟩ (.slice xz (fe.f1.length+1) wT)).frozen? ⟨w.heap.size,2,none⟩=false:=ah (SI.o).box 2;rw[List.length_set]at hP;obtain⟨W1,M1,P0,n0,d0,P1,n1,d1,P2,n2,d2,P3,n3,d3,P4,n4,d4,P5,n5,d5,P6,n6,d6,P7,n7,d7,hw1,HO,⟨q0,q1,q2,q3,q4,q5,q6,q7⟩,⟨z0,z1,z2,z3,z4,z5,z6,z7⟩,k0,k1,k2,k3,k4,k5,k6,k7⟩:=fU.named hP;clear hP hlen
     go_wp2_with fail
     refine bodyPost_ret (v:=_) (by simp[results,results36,go_sem,z0,z1,z2,z3,z4,z5,z6,z7]<;>rfl) rfl ?_;exact HO.o.qb LW.o
end Go.Proofs.YthehihjcpiadgaaGreat
namespace Go.Proofs.YthehihjcpiadgaaGreat
open Go.RowKit Go.ChangeShapes Go.WideShapes Go.Proofs.Wz.PrintWords
def rZ(w:World)(A:Option Addr)(n:Nat):Prop:= ∀i,i<n-> ∃(ad:Addr) (t0 t1 t2 t3:Int) (raw:aW) (AR:Option Addr) (cR:Nat),A=some ad/\(∀(j:Nat) (v:Value),([.int .i64 t0,.int .i64 t1,.int .i64 t2,.int .u64 t3,.int .i64 raw.f0,.int .i64 raw.f1,.int .i64 raw.f2,.int .u64 raw.f3,.slice AR raw.f4.length cR]:List Value)[j]? =some v->w.cell? (ad.add (i*9+j))=some v)/\bW.K w raw [.int .i64 raw.f0,.int .i64 raw.f1,.int .i64 raw.f2,.int .u64 raw.f3,.slice AR raw.f4.length cR]
section
variable {H:Type} {enc:TypeId×Value->H} {w:World} {fuel:Nat} {cs:List Value} {x:DataW H×List MemPlace}
theorem cI:prog.cellsOf 3=1:=by kernel_rfl
theorem cU:prog.cellsOf 22=1:=by kernel_rfl
theorem cIs:prog.cellsOf 23=1:=by kernel_rfl
theorem TK:prog.cellsOf 25=5:=by kernel_rfl
theorem TL:prog.cellsOf 99=9:=by kernel_rfl
theorem ints_opened(h:DataW.trod enc prog w 0 (fun _=>true) true fuel 23 cs=some x): ∃(A:Option Addr) (l:List Int) (c:Nat),cs= [.slice A l.length c]/\l.length<=c/\bf w A l:=by
 rcases open_ints underlying23 underlying3 cI h with⟨rfl,-⟩|⟨a,len,cap,zs,rfl,-,hl,hm,hz,-,hc,hw⟩
 ·exact⟨none,[],0,rfl,aU _,Kd.iw _ _⟩
 ·obtain⟨l,rfl,hr,-,-,hcap⟩:=jD.TV (k:= .i64) (w:=w) (a:=some a) (len:=len) (cap:=cap) (zs:=zs) (.inr ⟨a,rfl,hl,hm,by simpa using hz,hc,hw⟩)
  exact⟨some a,l,cap,rfl,hcap,Kd.kQ (d:=(0:Int)) (h1:=fun _=>rfl) hr⟩
theorem lI{α:Type}{xs:List α}{k i:Nat}(h:xs.length=k)(hi:i<k): ∃y,xs[i]? =some y:=⟨xs[i],MA _⟩
theorem Gi(h:DataW.trod enc prog w 0 (fun _=>true) true fuel 25 cs=some x): ∃(raw:aW) (AR:Option Addr) (cR:Nat),cs= [.int .i64 raw.f0,.int .i64 raw.f1,.int .i64 raw.f2,.int .u64 raw.f3,.slice AR raw.f4.length cR]/\bW.K w raw cs:=by
 obtain⟨xs,n,-,-,hl,hx,hf⟩:=DataW.trod_struct underlying25 h;rw[TK]at hl
 match cs,hl with
 | [c0,c1,c2,c3,c4],_=>
   obtain⟨y0,e0⟩:=lI hx (show 0<5 by decide);obtain⟨y1,e1⟩:=lI hx (show 1<5 by decide);obtain⟨y2,e2⟩:=lI hx (show 2<5 by decide);obtain⟨y3,e3⟩:=lI hx (show 3<5 by decide);obtain⟨y4,e4⟩:=lI hx (show 4<5 by decide);have h0:DataW.trod enc prog w 0 (fun _=>true) true n 3 (([c0,c1,c2,c3,c4].drop 0).take (prog.cellsOf 3))=some y0:=(hf 0 _ rfl).trans e0;rw[cI]at h0;replace h0:DataW.trod enc prog w 0 (fun _=>true) true n 3 [c0]=some y0:=h0;have h1:DataW.trod enc prog w 0 (fun _=>true) true n 3 (([c0,c1,c2,c3,c4].drop 1).take (prog.cellsOf 3))=some y1:=(hf 1 _ rfl).trans e1;rw[cI]at h1;replace h1:DataW.trod enc prog w 0 (fun _=>true) true n 3 [c1]=some y1:=h1;have h2:DataW.trod enc prog w 0 (fun _=>true) true n 3 (([c0,c1,c2,c3,c4].drop 2).take (prog.cellsOf 3))=some y2:=(hf 2 _ rfl).trans e2;rw[cI]at h2;replace h2:DataW.trod enc prog w 0 (fun _=>true) true n 3 [c2]=some y2:=h2;have h3:DataW.trod enc prog w 0 (fun _=>true) true n 22 (([c0,c1,c2,c3,c4].drop 3).take (prog.cellsOf 22))=some y3:=(hf 3 _ rfl).trans e3;rw[cU]at h3;replace h3:DataW.trod enc prog w 0 (fun _=>true) true n 22 [c3]=some y3:=h3;have h4:DataW.trod enc prog w 0 (fun _=>true) true n 23 (([c0,c1,c2,c3,c4].drop 4).take (prog.cellsOf 23))=some y4:=(hf 4 _ rfl).trans e4;rw[cIs]at h4;replace h4:DataW.trod enc prog w 0 (fun _=>true) true n 23 [c4]=some y4:=h4;obtain⟨a0,q0,-,-⟩:=DataW.trod_int underlying3 h0;obtain⟨a1,q1,-,-⟩:=DataW.trod_int underlying3 h1;obtain⟨a2,q2,-,-⟩:=DataW.trod_int underlying3 h2;obtain⟨a3,q3,-,-⟩:=DataW.trod_int underlying22 h3;obtain⟨AR,l,cR,q4,hcap,hC⟩:=ints_opened h4;injection q0 with q0;injection q1 with q1;injection q2 with q2;injection q3 with q3;injection q4 with q4;subst q0;subst q1;subst q2;subst q3;subst q4;exact⟨⟨a0,a1,a2,a3,l⟩,AR,cR,rfl,qE w ⟨a0,a1,a2,a3,l⟩ hcap hC⟩
theorem Gj(h:DataW.trod enc prog w 0 (fun _=>true) true fuel 99 cs=some x): ∃(t0 t1 t2 t3:Int) (raw:aW) (AR:Option Addr) (cR:Nat),cs= [.int .i64 t0,.int .i64 t1,.int .i64 t2,.int .u64 t3,.int .i64 raw.f0,.int .i64 raw.f1,.int .i64 raw.f2,.int .u64 raw.f3,.slice AR raw.f4.length cR]/\bW.K w raw [.int .i64 raw.f0,.int .i64 raw.f1,.int .i64 raw.f2,.int .u64 raw.f3,.slice AR raw.f4.length cR]:=by
 obtain⟨xs,n,-,-,hl,hx,hf⟩:=DataW.trod_struct underlying99 h;rw[TL]at hl
 match cs,hl with
 | [c0,c1,c2,c3,c4,c5,c6,c7,c8],_=>
   obtain⟨y0,e0⟩:=lI hx (show 0<5 by decide);obtain⟨y1,e1⟩:=lI hx (show 1<5 by decide);obtain⟨y2,e2⟩:=lI hx (show 2<5 by decide);obtain⟨y3,e3⟩:=lI hx (show 3<5 by decide);obtain⟨y4,e4⟩:=lI hx (show 4<5 by decide);have h0:DataW.trod enc prog w 0 (fun _=>true) true n 3 (([c0,c1,c2,c3,c4,c5,c6,c7,c8].drop 0).take (prog.cellsOf 3))=some y0:=(hf 0 _ rfl).trans e0;rw[cI]at h0;replace h0:DataW.trod enc prog w 0 (fun _=>true) true n 3 [c0]=some y0:=h0;have h1:DataW.trod enc prog w 0 (fun _=>true) true n 3 (([c0,c1,c2,c3,c4,c5,c6,c7,c8].drop 1).take (prog.cellsOf 3))=some y1:=(hf 1 _ rfl).trans e1;rw[cI]at h1;replace h1:DataW.trod enc prog w 0 (fun _=>true) true n 3 [c1]=some y1:=h1;have h2:DataW.trod enc prog w 0 (fun _=>true) true n 3 (([c0,c1,c2,c3,c4,c5,c6,c7,c8].drop 2).take (prog.cellsOf 3))=some y2:=(hf 2 _ rfl).trans e2;rw[cI]at h2;replace h2:DataW.trod enc prog w 0 (fun _=>true) true n 3 [c2]=some y2:=h2;have h3:DataW.trod enc prog w 0 (fun _=>true) true n 22 (([c0,c1,c2,c3,c4,c5,c6,c7,c8].drop 3).take (prog.cellsOf 22))=some y3:=(hf 3 _ rfl).trans e3;rw[cU]at h3;replace h3:DataW.trod enc prog w 0 (fun _=>true) true n 22 [c3]=some y3:=h3;have h4:DataW.trod enc prog w 0 (fun _=>true) true n 25 (([c0,c1,c2,c3,c4,c5,c6,c7,c8].drop 4).take (prog.cellsOf 25))=some y4:=(hf 4 _ rfl).trans e4;rw[TK]at h4;replace h4:DataW.trod enc prog w 0 (fun _=>true) true n 25 [c4,c5,c6,c7,c8]=some y4:=h4;obtain⟨a0,q0,-,-⟩:=DataW.trod_int underlying3 h0;obtain⟨a1,q1,-,-⟩:=DataW.trod_int underlying3 h1;obtain⟨a2,q2,-,-⟩:=DataW.trod_int underlying3 h2;obtain⟨a3,q3,-,-⟩:=DataW.trod_int underlying22 h3;obtain⟨raw,AR,cR,q4,hK⟩:=Gi h4;injection q0 with q0;injection q1 with q1;injection q2 with q2;injection q3 with q3;injection q4 with p4 q4;injection q4 with p5 q4;injection q4 with p6 q4;injection q4 with p7 q4;injection q4 with p8 q4;subst q0;subst q1;subst q2;subst q3;subst p4;subst p5;subst p6;subst p7;subst p8;exact⟨a0,a1,a2,a3,raw,AR,cR,rfl,hK⟩
theorem turns_opened(h:DataW.trod enc prog w 0 (fun _=>true) true fuel 43 cs=some x): ∃(A:Option Addr) (n c:Nat),cs= [.slice A n c]/\n<=maxLen/\rZ w A n:=by
 rcases Go.Deep.open_slice underlying43 h with⟨rfl,-⟩|⟨a,len,cap,m,n,D,Pl,rfl,-,hl,hm,Jn,-,hx⟩
 ·exact⟨none,0,0,rfl,Nat.zero_le _,fun i hi=>absurd hi (Nat.not_lt_zero _)⟩
 ·refine⟨some a,len,cap,rfl,cG hl hm,fun i hi=>?_⟩
  obtain⟨cs',hc,ht⟩:=hx i (by rw[Jn];simp only[if_true];omega);rw[TL]at hc;obtain⟨t0,t1,t2,t3,raw,AR,cR,rfl,hK⟩:=Gj ht;refine⟨a,t0,t1,t2,t3,raw,AR,cR,rfl,fun j v hv=>?_,hK⟩;have hj:j<9:=(List.getElem?_eq_some_iff.1 hv).1;rw[<-Go.Deep.add_add];exact((World.cells?_some hc).2.2 j hj).trans hv
end
end Go.Proofs.YthehihjcpiadgaaGreat
namespace Go.Proofs.YthehihjcpiadgaaGreat
open Go.RowKit Go.Proofs.Wz.PrintWords Go.Proofs.Wz.bM
def L0(w W:World)(k:Nat):Prop:= ∃M cs,W.heap[w.heap.size]? =some (.cells cs.toArray 37 (0,0))/\W.heap[w.heap.size+1]? =some (.cells eR 37 (0,0))/\Kd.FK bZ W (fun q=>q≠w.heap.size/\q≠w.heap.size+1) M cs/\oG k M/\Below w.heap.size w W
def SJ(w:World)(k:Nat)(e:Ending)(w':World):Prop:= ∃M cs,e= .returned (.agg cs.toArray)/\bZ.K w' M cs/\oG k M/\Below w.heap.size w w'
theorem L0.put{w W:World}{k:Nat}{M:bL}{o0 o1 o2 o3 o4 o5 o6 o7 v0 v1 v2 v3 v4 v5 v6 v7:Value}(h0:W.heap[w.heap.size]? =some (.cells #[o0,o1,o2,o3,o4,o5,o6,o7] 37 (0,0)))(h1:W.heap[w.heap.size+1]? =some (.cells eR 37 (0,0)))(hf:Kd.FK bZ W (fun q=>q≠w.heap.size/\q≠w.heap.size+1) M [v0,v1,v2,v3,v4,v5,v6,v7])(hs:oG k M)(hb:Below w.heap.size w W):L0 w ((((((((W.setCell ⟨w.heap.size,0,none⟩ v0).setCell ⟨w.heap.size,1,none⟩ v1).setCell ⟨w.heap.size,2,none⟩ v2).setCell ⟨w.heap.size,3,none⟩ v3).setCell ⟨w.heap.size,4,none⟩ v4).setCell ⟨w.heap.size,5,none⟩ v5).setCell ⟨w.heap.size,6,none⟩ v6).setCell ⟨w.heap.size,7,none⟩ v7) k:=
 ⟨M,[v0,v1,v2,v3,v4,v5,v6,v7],(bC (bC (bC (bC (bC (bC (bC (bC h0 0 v0) 1 v1) 2 v2) 3 v3) 4 v4) 5 v5) 6 v6) 7 v7),(bR (bR (bR (bR (bR (bR (bR (bR h1 (p:=⟨w.heap.size,0,none⟩) (Nat.succ_ne_self _) v0) (p:=⟨w.heap.size,1,none⟩) (Nat.succ_ne_self _) v1) (p:=⟨w.heap.size,2,none⟩) (Nat.succ_ne_self _) v2) (p:=⟨w.heap.size,3,none⟩) (Nat.succ_ne_self _) v3) (p:=⟨w.heap.size,4,none⟩) (Nat.succ_ne_self _) v4) (p:=⟨w.heap.size,5,none⟩) (Nat.succ_ne_self _) v5) (p:=⟨w.heap.size,6,none⟩) (Nat.succ_ne_self _) v6) (p:=⟨w.heap.size,7,none⟩) (Nat.succ_ne_self _) v7),(Kd.dK (Kd.dK (Kd.dK (Kd.dK (Kd.dK (Kd.dK (Kd.dK (Kd.dK hf (fun q hq _=>dX _ ⟨w.heap.size,0,none⟩ v0 q hq.1)) (fun q hq _=>dX _ ⟨w.heap.size,1,none⟩ v1 q hq.1)) (fun q hq _=>dX _ ⟨w.heap.size,2,none⟩ v2 q hq.1)) (fun q hq _=>dX _ ⟨w.heap.size,3,none⟩ v3 q hq.1)) (fun q hq _=>dX _ ⟨w.heap.size,4,none⟩ v4 q hq.1)) (fun q hq _=>dX _ ⟨w.heap.size,5,none⟩ v5 q hq.1)) (fun q hq _=>dX _ ⟨w.heap.size,6,none⟩ v6 q hq.1)) (fun q hq _=>dX _ ⟨w.heap.size,7,none⟩ v7 q hq.1)),hs,(aK (aK (aK (aK (aK (aK (aK (aK hb (aU _)) (aU _)) (aU _)) (aU _)) (aU _)) (aU _)) (aU _)) (aU _))⟩
theorem PY(w:World)(M:bL)(cs:List Value)(k:Nat)(hM:bZ.K w M cs)(hS:oG k M)(hk:k<=900)(A:Option Addr)(n c:Nat)(hn:n<=9223372036854775807)(hT:rZ w A n):Calls prog 17 #[.agg cs.toArray,.slice A n c] w (SJ w (k+4)):=by
 obtain⟨A0,c0,A1,c1,A2,c2,A3,c3,A4,c4,A5,c5,A6,c6,A7,c7,rfl,uT,-⟩:=DR (show Kd.FK bZ w (fun q=>q<w.heap.size) M cs from fun W' hW=>iT.K (fun q hq=>hW q hq hq) hM);clear uT;have HM:=hd hM;have HS:=hd hS;have HK:=hd hk;have HT:=hd hT;have Ch:=hd hn;clear hM hS hk hT hn
 go_enter func17,ntmps17
 have xm:((w.alloc (.cells #[.slice A0 M.f0.length c0,.slice A1 M.f1.length c1,.slice A2 M.f2.length c2,.slice A3 M.f3.length c3,.slice A4 M.f4.length c4,.slice A5 M.f5.length c5,.slice A6 M.f6.length c6,.slice A7 M.f7.length c7] 37)).alloc (.cells eR 37)).heap[w.heap.size]? =some (.cells #[.slice A0 M.f0.length c0,.slice A1 M.f1.length c1,.slice A2 M.f2.length c2,.slice A3 M.f3.length c3,.slice A4 M.f4.length c4,.slice A5 M.f5.length c5,.slice A6 M.f6.length c6,.slice A7 M.f7.length c7] 37 (0,0)):=gv [.cells #[.slice A0 M.f0.length c0,.slice A1 M.f1.length c1,.slice A2 M.f2.length c2,.slice A3 M.f3.length c3,.slice A4 M.f4.length c4,.slice A5 M.f5.length c5,.slice A6 M.f6.length c6,.slice A7 M.f7.length c7] 37,.cells eR 37] w 0 _ rfl;have xr:((w.alloc (.cells #[.slice A0 M.f0.length c0,.slice A1 M.f1.length c1,.slice A2 M.f2.length c2,.slice A3 M.f3.length c3,.slice A4 M.f4.length c4,.slice A5 M.f5.length c5,.slice A6 M.f6.length c6,.slice A7 M.f7.length c7] 37)).alloc (.cells eR 37)).heap[w.heap.size+1]? =some (.cells eR 37 (0,0)):=gv [.cells #[.slice A0 M.f0.length c0,.slice A1 M.f1.length c1,.slice A2 M.f2.length c2,.slice A3 M.f3.length c3,.slice A4 M.f4.length c4,.slice A5 M.f5.length c5,.slice A6 M.f6.length c6,.slice A7 M.f7.length c7] 37,.cells eR 37] w 1 _ rfl;have xb:Below w.heap.size w ((w.alloc (.cells #[.slice A0 M.f0.length c0,.slice A1 M.f1.length c1,.slice A2 M.f2.length c2,.slice A3 M.f3.length c3,.slice A4 M.f4.length c4,.slice A5 M.f5.length c5,.slice A6 M.f6.length c6,.slice A7 M.f7.length c7] 37)).alloc (.cells eR 37)):=af (af (ay _ _) _) _;have HO:Hid (L0 w ((w.alloc (.cells #[.slice A0 M.f0.length c0,.slice A1 M.f1.length c1,.slice A2 M.f2.length c2,.slice A3 M.f3.length c3,.slice A4 M.f4.length c4,.slice A5 M.f5.length c5,.slice A6 M.f6.length c6,.slice A7 M.f7.length c7] 37)).alloc (.cells eR 37)) (k+0)):=hd ⟨M,[.slice A0 M.f0.length c0,.slice A1 M.f1.length c1,.slice A2 M.f2.length c2,.slice A3 M.f3.length c3,.slice A4 M.f4.length c4,.slice A5 M.f5.length c5,.slice A6 M.f6.length c6,.slice A7 M.f7.length c7],xm,xr,fun W' hW=>iT.K (fun q hq=>(hW q ⟨by omega,by omega⟩ (jv hq xb.size)).trans (xb.block q hq)) HM.o,HS.o,xb⟩;clear xm xr xb
 go_wp2_with fail
 go_loopw [5] (fun i wr=> ∃j:Nat,j<=4/\j<=n/\i= .int .i64 (j:Int)/\Hid (L0 w wr (k+j))) (fun i _=>4-(intOf i).toNat)
 case atStart=>exact⟨0,by omega,by omega,rfl,HO⟩
 case round=>
  obtain⟨j,hj4,hjn,rfl,HW⟩:=hrel;rename_i wr _;clear HO;obtain⟨M1,cs1,h0,h1,hf,hs,hb⟩:=HW.o;obtain⟨P0,d0,P1,d1,P2,d2,P3,d3,P4,d4,P5,d5,P6,d6,P7,d7,rfl,uT,-⟩:=DR hf;clear uT;have cn:=hd h0;have bE:=hd h1;have HF:=hd hf;have Sz:=hd hs;have uV:=hd hb;clear h0 h1 hf hs hb;obtain⟨m0,m1,m2,m3,m4,m5,m6,m7⟩:=c8 cn.o;by_cases cw:j<n/\j<4
  case' pos=>
   have cw1:((j:Int)<(n:Int)):=by omega
   have cw2:((j:Int)<4):=by omega
   have WN:=hd cw;clear cw;obtain⟨ad,t0,t1,t2,t3,raw,AR,cR,rfl,hc,Zw⟩:=HT.o j WN.o.1;have HC:=hd hc;have aei:=hd Zw;clear hc Zw;have j0:(0:Int)<=(j:Int):=by omega
   have j2:((j:Int)).toNat=j:=dF j;have y0:wr.cell? (ad.add (j*9))=some (.int .i64 t0):=(uV.o.cell (aR w _ (HC.o 0 _ rfl))).trans (HC.o 0 _ rfl);have y1:wr.cell? ⟨(ad.add (j*9)).block,(ad.add (j*9)).off+1,none⟩=some (.int .i64 t1):=by rw[<-bV _ _ 1 (by omega)];exact(uV.o.cell (aR w _ (HC.o 1 _ rfl))).trans (HC.o 1 _ rfl)
   have y2:wr.cell? ⟨(ad.add (j*9)).block,(ad.add (j*9)).off+2,none⟩=some (.int .i64 t2):=by rw[<-bV _ _ 2 (by omega)];exact(uV.o.cell (aR w _ (HC.o 2 _ rfl))).trans (HC.o 2 _ rfl)
   have y3:wr.cell? ⟨(ad.add (j*9)).block,(ad.add (j*9)).off+3,none⟩=some (.int .u64 t3):=by rw[<-bV _ _ 3 (by omega)];exact(uV.o.cell (aR w _ (HC.o 3 _ rfl))).trans (HC.o 3 _ rfl)
   have y4:wr.cell? ⟨(ad.add (j*9)).block,(ad.add (j*9)).off+4,none⟩=some (.int .i64 raw.f0):=by rw[<-bV _ _ 4 (by omega)];exact(uV.o.cell (aR w _ (HC.o 4 _ rfl))).trans (HC.o 4 _ rfl)
   have y5:wr.cell? ⟨(ad.add (j*9)).block,(ad.add (j*9)).off+5,none⟩=some (.int .i64 raw.f1):=by rw[<-bV _ _ 5 (by omega)];exact(uV.o.cell (aR w _ (HC.o 5 _ rfl))).trans (HC.o 5 _ rfl)
   have y6:wr.cell? ⟨(ad.add (j*9)).block,(ad.add (j*9)).off+6,none⟩=some (.int .i64 raw.f2):=by rw[<-bV _ _ 6 (by omega)];exact(uV.o.cell (aR w _ (HC.o 6 _ rfl))).trans (HC.o 6 _ rfl)
   have y7:wr.cell? ⟨(ad.add (j*9)).block,(ad.add (j*9)).off+7,none⟩=some (.int .u64 raw.f3):=by rw[<-bV _ _ 7 (by omega)];exact(uV.o.cell (aR w _ (HC.o 7 _ rfl))).trans (HC.o 7 _ rfl)
   have y8:wr.cell? ⟨(ad.add (j*9)).block,(ad.add (j*9)).off+8,none⟩=some (.slice AR raw.f4.length cR):=by rw[<-bV _ _ 8 (by omega)];exact(uV.o.cell (aR w _ (HC.o 8 _ rfl))).trans (HC.o 8 _ rfl)
   go_wp2_with fail
   refine st 7 (fun w'=>w'.cell? ⟨w.heap.size,0,none⟩=some (.slice P0 M1.f0.length d0)/\w'.cell? ⟨w.heap.size,1,none⟩=some (.slice P1 M1.f1.length d1)/\w'.cell? ⟨w.heap.size,2,none⟩=some (.slice P2 M1.f2.length d2)/\w'.cell? ⟨w.heap.size,3,none⟩=some (.slice P3 M1.f3.length d3)/\w'.cell? ⟨w.heap.size,4,none⟩=some (.slice P4 M1.f4.length d4)/\w'.cell? ⟨w.heap.size,5,none⟩=some (.slice P5 M1.f5.length d5)/\w'.cell? ⟨w.heap.size,6,none⟩=some (.slice P6 M1.f6.length d6)/\w'.cell? ⟨w.heap.size,7,none⟩=some (.slice P7 M1.f7.length d7)/\w'.cell? (ad.add (j*9))=some (.int .i64 t0)/\w'.cell? ⟨(ad.add (j*9)).block,(ad.add (j*9)).off+1,none⟩=some (.int .i64 t1)/\w'.cell? ⟨(ad.add (j*9)).block,(ad.add (j*9)).off+2,none⟩=some (.int .i64 t2)/\w'.cell? ⟨(ad.add (j*9)).block,(ad.add (j*9)).off+3,none⟩=some (.int .u64 t3)/\w'.cell? ⟨(ad.add (j*9)).block,(ad.add (j*9)).off+4,none⟩=some (.int .i64 raw.f0)/\w'.cell? ⟨(ad.add (j*9)).block,(ad.add (j*9)).off+5,none⟩=some (.int .i64 raw.f1)/\w'.cell? ⟨(ad.add (j*9)).block,(ad.add (j*9)).off+6,none⟩=some (.int .i64 raw.f2)/\w'.cell? ⟨(ad.add (j*9)).block,(ad.add (j*9)).off+7,none⟩=some (.int .u64 raw.f3)/\w'.cell? ⟨(ad.add (j*9)).block,(ad.add (j*9)).off+8,none⟩=some (.slice AR raw.f4.length cR)) [6] ⟨m0,m1,m2,m3,m4,m5,m6,m7,y0,y1,y2,y3,y4,y5,y6,y7,y8⟩ (fun ag=>?_);refine tk 0 16 ag ?_;refine cZ 1 17 2 18 3 19 ?_;refine tk 4 20 ag ?_;refine on 5 (some 21) (fun K hK=>?_);refine ge (PM wr.drew M1 [.slice P0 M1.f0.length d0,.slice P1 M1.f1.length d1,.slice P2 M1.f2.length d2,.slice P3 M1.f3.length d3,.slice P4 M1.f4.length d4,.slice P5 M1.f5.length d5,.slice P6 M1.f6.length d6,.slice P7 M1.f7.length d7] (k+j) (fun q=>q<wr.heap.size/\(q≠w.heap.size/\q≠w.heap.size+1)) (fun q hq=>hq.1) (Kd.jK (Kd.oo (Kd.tJ HF.o (aX (ay _ _)))) (fun q hq=>⟨hq.2,hq.1⟩)) Sz.o (by have:=HK.o;omega) t0 t1 t2 t3 raw AR cR (Kd.jK (show Kd.FK bW wr.drew (fun q=>q<w.heap.size) raw _ from fun W' hW=>wk.K (fun q hq=>(hW q hq (jv hq uV.o.size)).trans (uV.o.block q hq)) aei.o) (fun q hq=>⟨jv hq uV.o.size,Nat.ne_of_lt hq,by have hq:q<w.heap.size:=hq;omega⟩))) ?_;rintro e w'⟨M2,cs2,rfl,hf2,hs2,hb2⟩;obtain⟨Q0,e0,Q1,e1,Q2,e2,Q3,e3,Q4,e4,Q5,e5,Q6,e6,Q7,e7,rfl,uT,-⟩:=DR hf2;clear uT;have hB2:Below wr.heap.size wr w':=az (aX (ay _ _)) hb2;have Md:=hd (show Kd.FK bZ w' (fun q=>q≠w.heap.size/\q≠w.heap.size+1) M2 _ from Kd.jK hf2 (fun q hq=>by have h1:=aj bE.o;rcases hq with hq|hq;exact hq.2;have hq:wr.heap.size<=q:=hq;constructor<;>omega));have iM:=hd hs2;have bw:=hd hB2;clear hf2 hs2 hb2 hB2;have Hi:=hd ((bw.o.block _ (aj cn.o)).trans cn.o);have fP:=hd ((bw.o.block _ (aj bE.o)).trans bE.o);refine⟨_,rfl,?_⟩;refine hK.o _ _ ⟨(bw.o.cell (aR _ _ m0)).trans m0,(bw.o.cell (aR _ _ m1)).trans m1,(bw.o.cell (aR _ _ m2)).trans m2,(bw.o.cell (aR _ _ m3)).trans m3,(bw.o.cell (aR _ _ m4)).trans m4,(bw.o.cell (aR _ _ m5)).trans m5,(bw.o.cell (aR _ _ m6)).trans m6,(bw.o.cell (aR _ _ m7)).trans m7,(bw.o.cell (aR _ _ y0)).trans y0,(bw.o.cell (aR _ _ y1)).trans y1,(bw.o.cell (aR _ _ y2)).trans y2,(bw.o.cell (aR _ _ y3)).trans y3,(bw.o.cell (aR _ _ y4)).trans y4,(bw.o.cell (aR _ _ y5)).trans y5,(bw.o.cell (aR _ _ y6)).trans y6,(bw.o.cell (aR _ _ y7)).trans y7,(bw.o.cell (aR _ _ y8)).trans y8⟩ (fun ag=>?_);clear hK K;refine nm ?_;obtain⟨z0,z1,z2,z3,z4,z5,z6,z7⟩:=c8 Hi.o;obtain⟨k0,k1,k2,k3,k4,k5,k6,k7⟩:=f8 Hi.o;refine la 6 ?_;refine dn ?_;clear z0 k0 m0 z1 k1 m1 z2 k2 m2 z3 k3 m3 z4 k4 m4 z5 k5 m5 z6 k6 m6 z7 k7 m7 y0 y1 y2 y3 y4 y5 y6 y7 y8;have hn:L0 w ((((((((w'.setCell ⟨w.heap.size,0,none⟩ (.slice Q0 M2.f0.length e0)).setCell ⟨w.heap.size,1,none⟩ (.slice Q1 M2.f1.length e1)).setCell ⟨w.heap.size,2,none⟩ (.slice Q2 M2.f2.length e2)).setCell ⟨w.heap.size,3,none⟩ (.slice Q3 M2.f3.length e3)).setCell ⟨w.heap.size,4,none⟩ (.slice Q4 M2.f4.length e4)).setCell ⟨w.heap.size,5,none⟩ (.slice Q5 M2.f5.length e5)).setCell ⟨w.heap.size,6,none⟩ (.slice Q6 M2.f6.length e6)).setCell ⟨w.heap.size,7,none⟩ (.slice Q7 M2.f7.length e7)) (k+(j+1)):=L0.put Hi.o fP.o Md.o iM.o (aA uV.o uV.o.size bw.o);generalize ((((((((w'.setCell ⟨w.heap.size,0,none⟩ (.slice Q0 M2.f0.length e0)).setCell ⟨w.heap.size,1,none⟩ (.slice Q1 M2.f1.length e1)).setCell ⟨w.heap.size,2,none⟩ (.slice Q2 M2.f2.length e2)).setCell ⟨w.heap.size,3,none⟩ (.slice Q3 M2.f3.length e3)).setCell ⟨w.heap.size,4,none⟩ (.slice Q4 M2.f4.length e4)).setCell ⟨w.heap.size,5,none⟩ (.slice Q5 M2.f5.length e5)).setCell ⟨w.heap.size,6,none⟩ (.slice Q6 M2.f6.length e6)).setCell ⟨w.heap.size,7,none⟩ (.slice Q7 M2.f7.length e7))=W9 at hn⊢;have VV:=hd hn;clear hn ag
   go_wp2_with fail
   go_roundw
   case rel=>exact⟨j+1,by have:=WN.o;omega,by have:=WN.o;omega,by go_num,VV⟩
   case measure=>have:=WN.o;simp[intOf];omega
  case' neg=>
   have WN:=hd cw;clear cw;obtain⟨z0,z1,z2,z3,z4,z5,z6,z7⟩:=c8 bE.o;obtain⟨k0,k1,k2,k3,k4,k5,k6,k7⟩:=f8 bE.o;by_cases c1:j<n
   case' neg=>have g1:decide (j<n)=false:=by simpa using c1
   case' pos=>have g1:((j:Int)<(n:Int)):=by omega
   case' pos=>have g2:decide ((j:Int)<4)=false:=by have:=WN.o;simp only[iy];omega
   case' pos=>clear c1
   all_goals
    go_wp2_with fail
    refine bodyPost_ret (v:=_) (by simp[results,results17,go_sem,z0,z1,z2,z3,z4,z5,z6,z7]<;>rfl) rfl ?_;exact⟨M1,_,rfl,Kd.jO (Kd.dK (Kd.dK (Kd.dK (Kd.dK (Kd.dK (Kd.dK (Kd.dK (Kd.dK HF.o (fun q hq _=>dX _ ⟨w.heap.size+1,0,none⟩ _ q hq.2)) (fun q hq _=>dX _ ⟨w.heap.size+1,1,none⟩ _ q hq.2)) (fun q hq _=>dX _ ⟨w.heap.size+1,2,none⟩ _ q hq.2)) (fun q hq _=>dX _ ⟨w.heap.size+1,3,none⟩ _ q hq.2)) (fun q hq _=>dX _ ⟨w.heap.size+1,4,none⟩ _ q hq.2)) (fun q hq _=>dX _ ⟨w.heap.size+1,5,none⟩ _ q hq.2)) (fun q hq _=>dX _ ⟨w.heap.size+1,6,none⟩ _ q hq.2)) (fun q hq _=>dX _ ⟨w.heap.size+1,7,none⟩ _ q hq.2)),Sz.o.more (by omega),(aK (aK (aK (aK (aK (aK (aK (aK uV.o (Nat.le_succ _)) (Nat.le_succ _)) (Nat.le_succ _)) (Nat.le_succ _)) (Nat.le_succ _)) (Nat.le_succ _)) (Nat.le_succ _)) (Nat.le_succ _))⟩
end Go.Proofs.YthehihjcpiadgaaGreat
