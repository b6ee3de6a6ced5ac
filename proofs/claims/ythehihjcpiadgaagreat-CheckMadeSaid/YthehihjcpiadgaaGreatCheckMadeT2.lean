import Derived.LoopN
import Derived.Shelf.SlSortCmp.WholeK
import Derived.Shelf.SlSortCmp.NoneTotal
import Derived.Shelf.SlGeneric
import Derived.Ground.SlsfProg
import Derived.Test.YthehihjcpiadgaaGreatCheckMadeLA
import Derived.Test.YthehihjcpiadgaaGreatCheckMadeT1
set_option maxRecDepth 100000
set_option maxHeartbeats 0
set_option linter.all false
open Go.Proofs.Tryz
namespace Go.Proofs.YthehihjcpiadgaaGreat
open Go.RowKit Go.Proofs.Wz.PrintWords Go.Proofs.Wz.bM
theorem E7{op:Int}{b:Bool}(h:Sp.eD op=b):Hid (∀w,Calls prog 88 #[.int .i64 op] w (fun e w'=>e= .returned (.tuple #[.int .i64 (Sp.mW op),.int .i64 (Sp.jX op),.bool (Sp.tN op),.bool b])/\w=w')):=by
 subst h;exact hd (jh op)
theorem AP{op:Int}{b:Bool}(h:decide (Sp.dx op≠0)=b):Hid (∀w,Calls prog 152 #[.int .i64 op] w (fun e w'=>e= .returned (.tuple #[.int .i64 (Sp.dx op),.bool b])/\w=w')):=by
 subst h;exact hd (ot op)
theorem AQ{op:Int}{b:Bool}(h:Sp.fB op=b):Hid (∀w,Calls prog 153 #[.int .i64 op] w (mY b (Sp.fR op) (Sp.gH op) w)):=by
 subst h;exact hd (EJ op)
theorem E8{w:World}{base g n m t:Nat}{D:Nat->Prop}{fx:List Value}{s:Sp.St}{vT vF:Value}{xs:List Int}(h:aJ w base g D fx s vT vF)(hn:n=w.heap.size)(hm:m=xs.length):
 nh (w.alloc (.cells (encs (Value.int .i64) xs).toArray t)) g vT vF (.slice (some ⟨n,0,none⟩) m m) xs:=by
 subst hn hm;obtain⟨h1,h2,h3⟩:=aV h;exact Jq (dh w _) (by omega) (fun e=>by have:=h2 _ e.symm;omega) (fun e=>by have:=h3 _ e.symm;omega)
theorem cH{w:World}{base g n m t:Nat}{D:Nat->Prop}{fx:List Value}{s:Sp.St}{vT vF:Value}(xs:List Int)(h:aJ w base g D fx s vT vF)(hI:Sp.cq s)(hn:n=w.heap.size)(hm:m=xs.length)(hl:xs.length<=1000000):
 Calls prog 145 #[.pointer (some ⟨g,0,none⟩),.slice (some ⟨n,0,none⟩) m m] (w.alloc (.cells (encs (Value.int .i64) xs).toArray t)) (bN g base D fx w vT vF (.tuple #[]) (s.pop xs)):=
 (gm _ base g D fx s vT vF _ (aI h _) hI xs (E8 h hn hm) hl).mono (fun e w' ⟨he,dI,eG,m,hS⟩=>⟨he,dI,eG,((Mv.refl g w vT vF).alloc _).trans m,hS⟩)
theorem cK{w:World}{base g n m t:Nat}{D:Nat->Prop}{fx:List Value}{s:Sp.St}{vT vF:Value}(xs:List Int)(h:aJ w base g D fx s vT vF)(hn:n=w.heap.size)(hm:m=xs.length)(hl:s.T.length+xs.length<=1000000):
 Calls prog 146 #[.pointer (some ⟨g,0,none⟩),.slice (some ⟨n,0,none⟩) m m] (w.alloc (.cells (encs (Value.int .i64) xs).toArray t)) (bN g base D fx w vT vF (.tuple #[]) (s.push xs)):=
 (dP _ base g D fx s vT vF _ (aI h _) xs (E8 h hn hm) hl).mono (fun e w' ⟨he,dI,eG,m,hS⟩=>⟨he,dI,eG,((Mv.refl g w vT vF).alloc _).trans m,hS⟩)
theorem dw{w W:World}{base g:Nat}{D:Nat->Prop}{fx:List Value}{s:Sp.St}{vT vF v:Value}{xs:List Int}(h:aJ w base g D fx s vT vF)(hb:base<=w.heap.size)(hr:cO W w.heap.size v xs):bl W base (fun k=>k≠g/\some k≠vT.ownBlock/\some k≠vF.ownBlock) v xs:=by
 obtain⟨h1,h2,h3⟩:=aV h;refine Kd.eH (Kd.bQ (Kd.fW hr) (fun k hk=>⟨by have:=hk.2.1;omega,fun e=>by have:=h2 _ e.symm;have:=hk.2.1;omega,fun e=>by have:=h3 _ e.symm;have:=hk.2.1;omega⟩)) hb
theorem Jt(s:Sp.St):s.any.2.T.length<=s.T.length:=by unfold Sp.St.any;split<;>simp
theorem UG(s:Sp.St)(x:Int):(s.Aq x).T.length<=s.T.length:=by unfold Sp.St.Aq;split<;>exact Jt s
theorem p9(s:Sp.St)(l:List Int):(s.pop l).T.length<=s.T.length:=by
 unfold Sp.St.pop;induction l with
 |nil=>exact aU _
 |cons a l ih=>rw[List.foldr_cons];exact cG (UG _ _) ih
theorem E9(op:Int):(Sp.fR op).length<=2:=by
 unfold Sp.fR;repeat' split
 all_goals simp
theorem wP(op:Int):(Sp.gH op).length<=1:=by unfold Sp.gH;split<;>simp
theorem zh(w:World)(base g:Nat)(D:Nat->Prop)(fx:List Value)(s:Sp.St)(vT vF:Value)(h:aJ w base g D fx s vT vF)(hI:Sp.cq s)(hl:s.T.length+8<=1000000)(js:base<=w.heap.size)(op:Int)(hA:Sp.eD op=true)(hge:54<=op)(hC:decide (Sp.dx op≠0)=false)(hN:Sp.fB op=false):Calls prog 99 #[.pointer (some ⟨g,0,none⟩),.int .i64 op] w (bN g base D fx w vT vF (.tuple #[]) (s.plain op)):=by
 have HA:Hid (∀w,Calls prog 88 #[.int .i64 op] w (fun e w'=>e= .returned (.tuple #[.int .i64 (Sp.mW op),.int .i64 (Sp.tM op),.bool (Sp.tN op),.bool true])/\w=w')):=hd (fun w=>by have:=jh op w;rw[hA]at this;rw[show Sp.jX op=Sp.tM op by unfold Sp.jX;rw[if_pos];simpa[Sp.eD]using hA]at this;exact this);have HC:=AP hC;have HN:=AQ hN;have HP:=hd (show s.plain op=s.pop [127,Sp.tM op] by unfold Sp.St.plain;rw[if_pos (by simp[hA,hge])]);have HS:=hd h;have HI:=hd hI;have ki:=hd js;have BP:=hd hl;clear h hI hA hC hN js hl
 go_enter func99,ntmps99
 go_wp2_with (first|((go_at_call 88);(with_reducible refine(HA.o _).mono ?_);rintro e w'⟨rfl,rfl⟩)|((go_at_call 152);(with_reducible refine(HC.o _).mono ?_);rintro e w'⟨rfl,rfl⟩)|((go_at_call 153);(with_reducible refine(HN.o _).mono ?_);rintro e w1⟨v1,v2,rfl,r1,r2,hb⟩;obtain⟨A1,c1,rfl⟩:=Kd.ai r1;obtain⟨A2,c2,rfl⟩:=Kd.ai r2;have iK:=hd r1;have ia:=hd r2;have HB:=hd hb;clear r1 r2 hb))
 obtain⟨O,hO⟩:=ex (Obj.cells #[.slice A1 (Sp.fR op).length c1,.slice A2 (Sp.gH op).length c2] 178);have h2:aJ (w1.alloc  O) base g D fx s vT vF:=aI (aY HS.o HB.o) _;have m2:Mv g w (w1.alloc  O) vT vF vT vF:=(Mv.bF HB.o).alloc _;have q1:bl (w1.alloc  O) base (fun k=>k≠g/\some k≠vT.ownBlock/\some k≠vF.ownBlock) _ _:=Kd.aZ (dw HS.o ki.o iK.o) _;have q2:bl (w1.alloc  O) base (fun k=>k≠g/\some k≠vT.ownBlock/\some k≠vF.ownBlock) _ _:=Kd.aZ (dw HS.o ki.o ia.o) _;have z2:=dh w1  O;have hsz:(w1.alloc  O).heap.size=w1.heap.size+1:=by simp
 have hw1:w.heap.size<=w1.heap.size:=HB.o.size;rw[<-hO];generalize w1.alloc  O=W at h2 m2 q1 q2 z2 hsz⊢;rw[hO]at z2;clear hO;refine(cH [127,Sp.tM op] h2 HI.o (hsz.symm) rfl (by simp)).mono ?_;rintro e W3⟨rfl,DW,DX,m3,h3⟩
 go_wp2_with fail
 go_end0
 refine⟨rfl,DW,DX,(m2.trans m3),?_⟩;rw[HP.o];exact h3
theorem zi(w:World)(base g:Nat)(D:Nat->Prop)(fx:List Value)(s:Sp.St)(vT vF:Value)(h:aJ w base g D fx s vT vF)(hI:Sp.cq s)(hl:s.T.length+8<=1000000)(js:base<=w.heap.size)(op:Int)(hA:Sp.eD op=true)(hge: ¬54<=op)(hC:decide (Sp.dx op≠0)=false)(hN:Sp.fB op=false):Calls prog 99 #[.pointer (some ⟨g,0,none⟩),.int .i64 op] w (bN g base D fx w vT vF (.tuple #[]) (s.plain op)):=by
 have HA:Hid (∀w,Calls prog 88 #[.int .i64 op] w (fun e w'=>e= .returned (.tuple #[.int .i64 (Sp.mW op),.int .i64 (Sp.tM op),.bool (Sp.tN op),.bool true])/\w=w')):=hd (fun w=>by have:=jh op w;rw[hA]at this;rw[show Sp.jX op=Sp.tM op by unfold Sp.jX;rw[if_pos];simpa[Sp.eD]using hA]at this;exact this);have HC:=AP hC;have HN:=AQ hN;have HP:=hd (show s.plain op=(s.pop [127]).push [Sp.tM op] by unfold Sp.St.plain;rw[if_neg (by simp[hge]),if_pos hA]);have HS:=hd h;have HI:=hd hI;have ki:=hd js;have BP:=hd hl;clear h hI hA hC hN js hl
 go_enter func99,ntmps99
 go_wp2_with (first|((go_at_call 88);(with_reducible refine(HA.o _).mono ?_);rintro e w'⟨rfl,rfl⟩)|((go_at_call 152);(with_reducible refine(HC.o _).mono ?_);rintro e w'⟨rfl,rfl⟩)|((go_at_call 153);(with_reducible refine(HN.o _).mono ?_);rintro e w1⟨v1,v2,rfl,r1,r2,hb⟩;obtain⟨A1,c1,rfl⟩:=Kd.ai r1;obtain⟨A2,c2,rfl⟩:=Kd.ai r2;have iK:=hd r1;have ia:=hd r2;have HB:=hd hb;clear r1 r2 hb))
 obtain⟨O,hO⟩:=ex (Obj.cells #[.slice A1 (Sp.fR op).length c1,.slice A2 (Sp.gH op).length c2] 178);have h2:aJ (w1.alloc  O) base g D fx s vT vF:=aI (aY HS.o HB.o) _;have m2:Mv g w (w1.alloc  O) vT vF vT vF:=(Mv.bF HB.o).alloc _;have q1:bl (w1.alloc  O) base (fun k=>k≠g/\some k≠vT.ownBlock/\some k≠vF.ownBlock) _ _:=Kd.aZ (dw HS.o ki.o iK.o) _;have q2:bl (w1.alloc  O) base (fun k=>k≠g/\some k≠vT.ownBlock/\some k≠vF.ownBlock) _ _:=Kd.aZ (dw HS.o ki.o ia.o) _;have z2:=dh w1  O;have hsz:(w1.alloc  O).heap.size=w1.heap.size+1:=by simp
 have hw1:w.heap.size<=w1.heap.size:=HB.o.size;rw[<-hO];generalize w1.alloc  O=W at h2 m2 q1 q2 z2 hsz⊢;rw[hO]at z2;clear hO;refine(cH [127] h2 HI.o (hsz.symm) rfl (by simp)).mono ?_;rintro e W3⟨rfl,DW,DX,m3,h3⟩;clear z2 q1 q2
 go_wp2_with fail
 refine(cK [Sp.tM op] h3 (rfl) rfl (by have:=BP.o;have t0:=p9 s [127];simp;omega)).mono ?_;rintro e W4⟨rfl,Rv,Rw,m4,h4⟩
 go_wp2_with fail
 go_end0
 refine⟨rfl,Rv,Rw,((m2.trans m3).trans m4),?_⟩;rw[HP.o];exact h4
theorem zj(w:World)(base g:Nat)(D:Nat->Prop)(fx:List Value)(s:Sp.St)(vT vF:Value)(h:aJ w base g D fx s vT vF)(hI:Sp.cq s)(hl:s.T.length+8<=1000000)(js:base<=w.heap.size)(op:Int)(hA:Sp.eD op=false)(hC:decide (Sp.dx op≠0)=true)(hN:Sp.fB op=false):Calls prog 99 #[.pointer (some ⟨g,0,none⟩),.int .i64 op] w (bN g base D fx w vT vF (.tuple #[]) (s.plain op)):=by
 have HA:=E7 hA;have HC:=AP hC;have HN:=AQ hN;have HP:=hd (show s.plain op=s.push [Sp.dx op] by unfold Sp.St.plain;rw[if_neg (by simp[hA]),if_neg (by simp[hA])];rw[if_pos (by simpa using hC)]);have HS:=hd h;have HI:=hd hI;have ki:=hd js;have BP:=hd hl;clear h hI hA hC hN js hl
 go_enter func99,ntmps99
 go_wp2_with (first|((go_at_call 88);(with_reducible refine(HA.o _).mono ?_);rintro e w'⟨rfl,rfl⟩)|((go_at_call 152);(with_reducible refine(HC.o _).mono ?_);rintro e w'⟨rfl,rfl⟩)|((go_at_call 153);(with_reducible refine(HN.o _).mono ?_);rintro e w1⟨v1,v2,rfl,r1,r2,hb⟩;obtain⟨A1,c1,rfl⟩:=Kd.ai r1;obtain⟨A2,c2,rfl⟩:=Kd.ai r2;have iK:=hd r1;have ia:=hd r2;have HB:=hd hb;clear r1 r2 hb))
 obtain⟨O,hO⟩:=ex (Obj.cells #[.slice A1 (Sp.fR op).length c1,.slice A2 (Sp.gH op).length c2] 178);have h2:aJ (w1.alloc  O) base g D fx s vT vF:=aI (aY HS.o HB.o) _;have m2:Mv g w (w1.alloc  O) vT vF vT vF:=(Mv.bF HB.o).alloc _;have q1:bl (w1.alloc  O) base (fun k=>k≠g/\some k≠vT.ownBlock/\some k≠vF.ownBlock) _ _:=Kd.aZ (dw HS.o ki.o iK.o) _;have q2:bl (w1.alloc  O) base (fun k=>k≠g/\some k≠vT.ownBlock/\some k≠vF.ownBlock) _ _:=Kd.aZ (dw HS.o ki.o ia.o) _;have z2:=dh w1  O;have hsz:(w1.alloc  O).heap.size=w1.heap.size+1:=by simp
 have hw1:w.heap.size<=w1.heap.size:=HB.o.size;rw[<-hO];generalize w1.alloc  O=W at h2 m2 q1 q2 z2 hsz⊢;rw[hO]at z2;clear hO;refine(cK [Sp.dx op] h2 (hsz.symm) rfl (by have:=BP.o;simp;omega)).mono ?_;rintro e W3⟨rfl,DW,DX,m3,h3⟩
 go_wp2_with fail
 go_end0
 refine⟨rfl,DW,DX,(m2.trans m3),?_⟩;rw[HP.o];exact h3
theorem zk(w:World)(base g:Nat)(D:Nat->Prop)(fx:List Value)(s:Sp.St)(vT vF:Value)(h:aJ w base g D fx s vT vF)(hI:Sp.cq s)(hl:s.T.length+8<=1000000)(js:base<=w.heap.size)(op:Int)(hA:Sp.eD op=false)(hC:decide (Sp.dx op≠0)=false)(hN:Sp.fB op=true):Calls prog 99 #[.pointer (some ⟨g,0,none⟩),.int .i64 op] w (bN g base D fx w vT vF (.tuple #[]) (s.plain op)):=by
 have HA:=E7 hA;have HC:=AP hC;have HN:=AQ hN;have HP:=hd (show s.plain op=(s.pop (Sp.fR op)).push (Sp.gH op) by unfold Sp.St.plain;rw[if_neg (by simp[hA]),if_neg (by simp[hA])];rw[if_neg (by simpa using hC)];rw[if_pos hN]);have HS:=hd h;have HI:=hd hI;have ki:=hd js;have BP:=hd hl;clear h hI hA hC hN js hl
 go_enter func99,ntmps99
 go_wp2_with (first|((go_at_call 88);(with_reducible refine(HA.o _).mono ?_);rintro e w'⟨rfl,rfl⟩)|((go_at_call 152);(with_reducible refine(HC.o _).mono ?_);rintro e w'⟨rfl,rfl⟩)|((go_at_call 153);(with_reducible refine(HN.o _).mono ?_);rintro e w1⟨v1,v2,rfl,r1,r2,hb⟩;obtain⟨A1,c1,rfl⟩:=Kd.ai r1;obtain⟨A2,c2,rfl⟩:=Kd.ai r2;have iK:=hd r1;have ia:=hd r2;have HB:=hd hb;clear r1 r2 hb))
 obtain⟨O,hO⟩:=ex (Obj.cells #[.slice A1 (Sp.fR op).length c1,.slice A2 (Sp.gH op).length c2] 178);have h2:aJ (w1.alloc  O) base g D fx s vT vF:=aI (aY HS.o HB.o) _;have m2:Mv g w (w1.alloc  O) vT vF vT vF:=(Mv.bF HB.o).alloc _;have q1:bl (w1.alloc  O) base (fun k=>k≠g/\some k≠vT.ownBlock/\some k≠vF.ownBlock) _ _:=Kd.aZ (dw HS.o ki.o iK.o) _;have q2:bl (w1.alloc  O) base (fun k=>k≠g/\some k≠vT.ownBlock/\some k≠vF.ownBlock) _ _:=Kd.aZ (dw HS.o ki.o ia.o) _;have z2:=dh w1  O;have hsz:(w1.alloc  O).heap.size=w1.heap.size+1:=by simp
 have hw1:w.heap.size<=w1.heap.size:=HB.o.size;rw[<-hO];generalize w1.alloc  O=W at h2 m2 q1 q2 z2 hsz⊢;rw[hO]at z2;clear hO;refine(gm W base g D fx s vT vF _ h2 HI.o (Sp.fR op) (fO h2 q1) (by have:=E9 op;omega)).mono ?_;rintro e W3⟨rfl,DW,DX,m3,h3⟩;have q2b:=lu q2 m3 (fun _ hk=>hk);have zz:W3.heap[w1.heap.size]? =_:=(m3.block w1.heap.size (by omega) (by have:=(aV HS.o).1;omega) (fun e=>by have:=(aV HS.o).2.1 _ e.symm;omega) (fun e=>by have:=(aV HS.o).2.2 _ e.symm;omega)).trans z2;have y1:=(aa zz 1).trans rfl;clear z2 q1 q2
 go_wp2_with fail
 refine(dP W3 base g D fx (s.pop (Sp.fR op)) DW DX _ h3 (Sp.gH op) (fO h3 q2b) (by have:=BP.o;have t0:=p9 s (Sp.fR op);have:=wP op;omega)).mono ?_;rintro e W4⟨rfl,Rv,Rw,m4,h4⟩
 go_wp2_with fail
 go_end0
 refine⟨rfl,Rv,Rw,((m2.trans m3).trans m4),?_⟩;rw[HP.o];exact h4
theorem zl(w:World)(base g:Nat)(D:Nat->Prop)(fx:List Value)(s:Sp.St)(vT vF:Value)(h:aJ w base g D fx s vT vF)(hI:Sp.cq s)(hl:s.T.length+8<=1000000)(js:base<=w.heap.size)(op:Int)(hA:Sp.eD op=false)(hC:decide (Sp.dx op≠0)=false)(hN:Sp.fB op=false)(h1:op=63)(Ju:(op==63)=true):Calls prog 99 #[.pointer (some ⟨g,0,none⟩),.int .i64 op] w (bN g base D fx w vT vF (.tuple #[]) (s.plain op)):=by
 have HA:=E7 hA;have HC:=AP hC;have HN:=AQ hN;have HP:=hd (show s.plain op=s.push [127] by unfold Sp.St.plain;rw[if_neg (by simp[hA]),if_neg (by simp[hA])];rw[if_neg (by simpa using hC)];rw[if_neg (by simp[hN])];rw[if_pos h1]);have HS:=hd h;have HI:=hd hI;have ki:=hd js;have BP:=hd hl;clear h hI hA hC hN js hl h1
 go_enter func99,ntmps99
 go_wp2_with (first|((go_at_call 88);(with_reducible refine(HA.o _).mono ?_);rintro e w'⟨rfl,rfl⟩)|((go_at_call 152);(with_reducible refine(HC.o _).mono ?_);rintro e w'⟨rfl,rfl⟩)|((go_at_call 153);(with_reducible refine(HN.o _).mono ?_);rintro e w1⟨v1,v2,rfl,r1,r2,hb⟩;obtain⟨A1,c1,rfl⟩:=Kd.ai r1;obtain⟨A2,c2,rfl⟩:=Kd.ai r2;have iK:=hd r1;have ia:=hd r2;have HB:=hd hb;clear r1 r2 hb))
 obtain⟨O,hO⟩:=ex (Obj.cells #[.slice A1 (Sp.fR op).length c1,.slice A2 (Sp.gH op).length c2] 178);have h2:aJ (w1.alloc  O) base g D fx s vT vF:=aI (aY HS.o HB.o) _;have m2:Mv g w (w1.alloc  O) vT vF vT vF:=(Mv.bF HB.o).alloc _;have q1:bl (w1.alloc  O) base (fun k=>k≠g/\some k≠vT.ownBlock/\some k≠vF.ownBlock) _ _:=Kd.aZ (dw HS.o ki.o iK.o) _;have q2:bl (w1.alloc  O) base (fun k=>k≠g/\some k≠vT.ownBlock/\some k≠vF.ownBlock) _ _:=Kd.aZ (dw HS.o ki.o ia.o) _;have z2:=dh w1  O;have hsz:(w1.alloc  O).heap.size=w1.heap.size+1:=by simp
 have hw1:w.heap.size<=w1.heap.size:=HB.o.size;rw[<-hO];generalize w1.alloc  O=W at h2 m2 q1 q2 z2 hsz⊢;rw[hO]at z2;clear hO;refine(cK [127] h2 (hsz.symm) rfl (by have:=BP.o;simp;omega)).mono ?_;rintro e W3⟨rfl,DW,DX,m3,h3⟩
 go_wp2_with fail
 go_end0
 refine⟨rfl,DW,DX,(m2.trans m3),?_⟩;rw[HP.o];exact h3
theorem zm(w:World)(base g:Nat)(D:Nat->Prop)(fx:List Value)(s:Sp.St)(vT vF:Value)(h:aJ w base g D fx s vT vF)(hI:Sp.cq s)(hl:s.T.length+8<=1000000)(js:base<=w.heap.size)(op:Int)(hA:Sp.eD op=false)(hC:decide (Sp.dx op≠0)=false)(hN:Sp.fB op=false)(h1:op=64)(Ju:(op==63)=false)(L8:(op==64)=true):Calls prog 99 #[.pointer (some ⟨g,0,none⟩),.int .i64 op] w (bN g base D fx w vT vF (.tuple #[]) (s.plain op)):=by
 have HA:=E7 hA;have HC:=AP hC;have HN:=AQ hN;have HP:=hd (show s.plain op=(s.pop [127]).push [127] by unfold Sp.St.plain;rw[if_neg (by simp[hA]),if_neg (by simp[hA])];rw[if_neg (by simpa using hC)];rw[if_neg (by simp[hN])];rw[if_neg (by omega),if_pos h1]);have HS:=hd h;have HI:=hd hI;have ki:=hd js;have BP:=hd hl;clear h hI hA hC hN js hl h1
 go_enter func99,ntmps99
 go_wp2_with (first|((go_at_call 88);(with_reducible refine(HA.o _).mono ?_);rintro e w'⟨rfl,rfl⟩)|((go_at_call 152);(with_reducible refine(HC.o _).mono ?_);rintro e w'⟨rfl,rfl⟩)|((go_at_call 153);(with_reducible refine(HN.o _).mono ?_);rintro e w1⟨v1,v2,rfl,r1,r2,hb⟩;obtain⟨A1,c1,rfl⟩:=Kd.ai r1;obtain⟨A2,c2,rfl⟩:=Kd.ai r2;have iK:=hd r1;have ia:=hd r2;have HB:=hd hb;clear r1 r2 hb))
 obtain⟨O,hO⟩:=ex (Obj.cells #[.slice A1 (Sp.fR op).length c1,.slice A2 (Sp.gH op).length c2] 178);have h2:aJ (w1.alloc  O) base g D fx s vT vF:=aI (aY HS.o HB.o) _;have m2:Mv g w (w1.alloc  O) vT vF vT vF:=(Mv.bF HB.o).alloc _;have q1:bl (w1.alloc  O) base (fun k=>k≠g/\some k≠vT.ownBlock/\some k≠vF.ownBlock) _ _:=Kd.aZ (dw HS.o ki.o iK.o) _;have q2:bl (w1.alloc  O) base (fun k=>k≠g/\some k≠vT.ownBlock/\some k≠vF.ownBlock) _ _:=Kd.aZ (dw HS.o ki.o ia.o) _;have z2:=dh w1  O;have hsz:(w1.alloc  O).heap.size=w1.heap.size+1:=by simp
 have hw1:w.heap.size<=w1.heap.size:=HB.o.size;rw[<-hO];generalize w1.alloc  O=W at h2 m2 q1 q2 z2 hsz⊢;rw[hO]at z2;clear hO;refine(cH [127] h2 HI.o (hsz.symm) rfl (by simp)).mono ?_;rintro e W3⟨rfl,DW,DX,m3,h3⟩;clear z2 q1 q2
 go_wp2_with fail
 refine(cK [127] h3 (rfl) rfl (by have:=BP.o;have t0:=p9 s [127];simp;omega)).mono ?_;rintro e W4⟨rfl,Rv,Rw,m4,h4⟩
 go_wp2_with fail
 go_end0
 refine⟨rfl,Rv,Rw,((m2.trans m3).trans m4),?_⟩;rw[HP.o];exact h4
theorem si(w:World)(base g:Nat)(D:Nat->Prop)(fx:List Value)(s:Sp.St)(vT vF:Value)(h:aJ w base g D fx s vT vF)(hI:Sp.cq s)(hl:s.T.length+8<=1000000)(js:base<=w.heap.size)(op:Int)(hA:Sp.eD op=false)(hC:decide (Sp.dx op≠0)=false)(hN:Sp.fB op=false)(h1:op=64520)(Ju:(op==63)=false)(L8:(op==64)=false)(pE:(op==64520)=true):Calls prog 99 #[.pointer (some ⟨g,0,none⟩),.int .i64 op] w (bN g base D fx w vT vF (.tuple #[]) (s.plain op)):=by
 have HA:=E7 hA;have HC:=AP hC;have HN:=AQ hN;have HP:=hd (show s.plain op=s.pop [127,127,127] by unfold Sp.St.plain;rw[if_neg (by simp[hA]),if_neg (by simp[hA])];rw[if_neg (by simpa using hC)];rw[if_neg (by simp[hN])];rw[if_neg (by omega),if_neg (by omega),if_pos (by omega)]);have HS:=hd h;have HI:=hd hI;have ki:=hd js;have BP:=hd hl;clear h hI hA hC hN js hl h1
 go_enter func99,ntmps99
 go_wp2_with (first|((go_at_call 88);(with_reducible refine(HA.o _).mono ?_);rintro e w'⟨rfl,rfl⟩)|((go_at_call 152);(with_reducible refine(HC.o _).mono ?_);rintro e w'⟨rfl,rfl⟩)|((go_at_call 153);(with_reducible refine(HN.o _).mono ?_);rintro e w1⟨v1,v2,rfl,r1,r2,hb⟩;obtain⟨A1,c1,rfl⟩:=Kd.ai r1;obtain⟨A2,c2,rfl⟩:=Kd.ai r2;have iK:=hd r1;have ia:=hd r2;have HB:=hd hb;clear r1 r2 hb))
 obtain⟨O,hO⟩:=ex (Obj.cells #[.slice A1 (Sp.fR op).length c1,.slice A2 (Sp.gH op).length c2] 178);have h2:aJ (w1.alloc  O) base g D fx s vT vF:=aI (aY HS.o HB.o) _;have m2:Mv g w (w1.alloc  O) vT vF vT vF:=(Mv.bF HB.o).alloc _;have q1:bl (w1.alloc  O) base (fun k=>k≠g/\some k≠vT.ownBlock/\some k≠vF.ownBlock) _ _:=Kd.aZ (dw HS.o ki.o iK.o) _;have q2:bl (w1.alloc  O) base (fun k=>k≠g/\some k≠vT.ownBlock/\some k≠vF.ownBlock) _ _:=Kd.aZ (dw HS.o ki.o ia.o) _;have z2:=dh w1  O;have hsz:(w1.alloc  O).heap.size=w1.heap.size+1:=by simp
 have hw1:w.heap.size<=w1.heap.size:=HB.o.size;rw[<-hO];generalize w1.alloc  O=W at h2 m2 q1 q2 z2 hsz⊢;rw[hO]at z2;clear hO;refine(cH [127,127,127] h2 HI.o (hsz.symm) rfl (by simp)).mono ?_;rintro e W3⟨rfl,DW,DX,m3,h3⟩
 go_wp2_with fail
 go_end0
 refine⟨rfl,DW,DX,(m2.trans m3),?_⟩;rw[HP.o];exact h3
theorem sj(w:World)(base g:Nat)(D:Nat->Prop)(fx:List Value)(s:Sp.St)(vT vF:Value)(h:aJ w base g D fx s vT vF)(hI:Sp.cq s)(hl:s.T.length+8<=1000000)(js:base<=w.heap.size)(op:Int)(hA:Sp.eD op=false)(hC:decide (Sp.dx op≠0)=false)(hN:Sp.fB op=false)(h1:op=64522)(Ju:(op==63)=false)(L8:(op==64)=false)(pE:(op==64520)=false)(zn:(op==64522)=true):Calls prog 99 #[.pointer (some ⟨g,0,none⟩),.int .i64 op] w (bN g base D fx w vT vF (.tuple #[]) (s.plain op)):=by
 have HA:=E7 hA;have HC:=AP hC;have HN:=AQ hN;have HP:=hd (show s.plain op=s.pop [127,127,127] by unfold Sp.St.plain;rw[if_neg (by simp[hA]),if_neg (by simp[hA])];rw[if_neg (by simpa using hC)];rw[if_neg (by simp[hN])];rw[if_neg (by omega),if_neg (by omega),if_pos (by omega)]);have HS:=hd h;have HI:=hd hI;have ki:=hd js;have BP:=hd hl;clear h hI hA hC hN js hl h1
 go_enter func99,ntmps99
 go_wp2_with (first|((go_at_call 88);(with_reducible refine(HA.o _).mono ?_);rintro e w'⟨rfl,rfl⟩)|((go_at_call 152);(with_reducible refine(HC.o _).mono ?_);rintro e w'⟨rfl,rfl⟩)|((go_at_call 153);(with_reducible refine(HN.o _).mono ?_);rintro e w1⟨v1,v2,rfl,r1,r2,hb⟩;obtain⟨A1,c1,rfl⟩:=Kd.ai r1;obtain⟨A2,c2,rfl⟩:=Kd.ai r2;have iK:=hd r1;have ia:=hd r2;have HB:=hd hb;clear r1 r2 hb))
 obtain⟨O,hO⟩:=ex (Obj.cells #[.slice A1 (Sp.fR op).length c1,.slice A2 (Sp.gH op).length c2] 178);have h2:aJ (w1.alloc  O) base g D fx s vT vF:=aI (aY HS.o HB.o) _;have m2:Mv g w (w1.alloc  O) vT vF vT vF:=(Mv.bF HB.o).alloc _;have q1:bl (w1.alloc  O) base (fun k=>k≠g/\some k≠vT.ownBlock/\some k≠vF.ownBlock) _ _:=Kd.aZ (dw HS.o ki.o iK.o) _;have q2:bl (w1.alloc  O) base (fun k=>k≠g/\some k≠vT.ownBlock/\some k≠vF.ownBlock) _ _:=Kd.aZ (dw HS.o ki.o ia.o) _;have z2:=dh w1  O;have hsz:(w1.alloc  O).heap.size=w1.heap.size+1:=by simp
 have hw1:w.heap.size<=w1.heap.size:=HB.o.size;rw[<-hO];generalize w1.alloc  O=W at h2 m2 q1 q2 z2 hsz⊢;rw[hO]at z2;clear hO;refine(cH [127,127,127] h2 HI.o (hsz.symm) rfl (by simp)).mono ?_;rintro e W3⟨rfl,DW,DX,m3,h3⟩
 go_wp2_with fail
 go_end0
 refine⟨rfl,DW,DX,(m2.trans m3),?_⟩;rw[HP.o];exact h3
theorem sq(w:World)(base g:Nat)(D:Nat->Prop)(fx:List Value)(s:Sp.St)(vT vF:Value)(h:aJ w base g D fx s vT vF)(hI:Sp.cq s)(hl:s.T.length+8<=1000000)(js:base<=w.heap.size)(op:Int)(hA:Sp.eD op=false)(hC:decide (Sp.dx op≠0)=false)(hN:Sp.fB op=false)(h1:op=64523)(Ju:(op==63)=false)(L8:(op==64)=false)(pE:(op==64520)=false)(zn:(op==64522)=false)(q8:(op==64523)=true):Calls prog 99 #[.pointer (some ⟨g,0,none⟩),.int .i64 op] w (bN g base D fx w vT vF (.tuple #[]) (s.plain op)):=by
 have HA:=E7 hA;have HC:=AP hC;have HN:=AQ hN;have HP:=hd (show s.plain op=s.pop [127,127,127] by unfold Sp.St.plain;rw[if_neg (by simp[hA]),if_neg (by simp[hA])];rw[if_neg (by simpa using hC)];rw[if_neg (by simp[hN])];rw[if_neg (by omega),if_neg (by omega),if_pos (by omega)]);have HS:=hd h;have HI:=hd hI;have ki:=hd js;have BP:=hd hl;clear h hI hA hC hN js hl h1
 go_enter func99,ntmps99
 go_wp2_with (first|((go_at_call 88);(with_reducible refine(HA.o _).mono ?_);rintro e w'⟨rfl,rfl⟩)|((go_at_call 152);(with_reducible refine(HC.o _).mono ?_);rintro e w'⟨rfl,rfl⟩)|((go_at_call 153);(with_reducible refine(HN.o _).mono ?_);rintro e w1⟨v1,v2,rfl,r1,r2,hb⟩;obtain⟨A1,c1,rfl⟩:=Kd.ai r1;obtain⟨A2,c2,rfl⟩:=Kd.ai r2;have iK:=hd r1;have ia:=hd r2;have HB:=hd hb;clear r1 r2 hb))
 obtain⟨O,hO⟩:=ex (Obj.cells #[.slice A1 (Sp.fR op).length c1,.slice A2 (Sp.gH op).length c2] 178);have h2:aJ (w1.alloc  O) base g D fx s vT vF:=aI (aY HS.o HB.o) _;have m2:Mv g w (w1.alloc  O) vT vF vT vF:=(Mv.bF HB.o).alloc _;have q1:bl (w1.alloc  O) base (fun k=>k≠g/\some k≠vT.ownBlock/\some k≠vF.ownBlock) _ _:=Kd.aZ (dw HS.o ki.o iK.o) _;have q2:bl (w1.alloc  O) base (fun k=>k≠g/\some k≠vT.ownBlock/\some k≠vF.ownBlock) _ _:=Kd.aZ (dw HS.o ki.o ia.o) _;have z2:=dh w1  O;have hsz:(w1.alloc  O).heap.size=w1.heap.size+1:=by simp
 have hw1:w.heap.size<=w1.heap.size:=HB.o.size;rw[<-hO];generalize w1.alloc  O=W at h2 m2 q1 q2 z2 hsz⊢;rw[hO]at z2;clear hO;refine(cH [127,127,127] h2 HI.o (hsz.symm) rfl (by simp)).mono ?_;rintro e W3⟨rfl,DW,DX,m3,h3⟩
 go_wp2_with fail
 go_end0
 refine⟨rfl,DW,DX,(m2.trans m3),?_⟩;rw[HP.o];exact h3
theorem zo(w:World)(base g:Nat)(D:Nat->Prop)(fx:List Value)(s:Sp.St)(vT vF:Value)(h:aJ w base g D fx s vT vF)(hI:Sp.cq s)(hl:s.T.length+8<=1000000)(js:base<=w.heap.size)(op:Int)(hA:Sp.eD op=false)(hC:decide (Sp.dx op≠0)=false)(hN:Sp.fB op=false)(h1: ¬op=63)(h2: ¬op=64)(h3: ¬op=64520)(h4: ¬op=64522)(h5: ¬op=64523)(Ju:(op==63)=false)(L8:(op==64)=false)(pE:(op==64520)=false)(zn:(op==64522)=false)(q8:(op==64523)=false):Calls prog 99 #[.pointer (some ⟨g,0,none⟩),.int .i64 op] w (bN g base D fx w vT vF (.tuple #[]) (s.plain op)):=by
 have HA:=E7 hA;have HC:=AP hC;have HN:=AQ hN;have HP:=hd (show s.plain op=s by unfold Sp.St.plain;rw[if_neg (by simp[hA]),if_neg (by simp[hA])];rw[if_neg (by simpa using hC)];rw[if_neg (by simp[hN])];rw[if_neg h1,if_neg h2,if_neg (by omega)]);have HS:=hd h;have HI:=hd hI;have ki:=hd js;have BP:=hd hl;clear h hI hA hC hN js hl h1 h2 h3 h4 h5
 go_enter func99,ntmps99
 go_wp2_with (first|((go_at_call 88);(with_reducible refine(HA.o _).mono ?_);rintro e w'⟨rfl,rfl⟩)|((go_at_call 152);(with_reducible refine(HC.o _).mono ?_);rintro e w'⟨rfl,rfl⟩)|((go_at_call 153);(with_reducible refine(HN.o _).mono ?_);rintro e w1⟨v1,v2,rfl,r1,r2,hb⟩;obtain⟨A1,c1,rfl⟩:=Kd.ai r1;obtain⟨A2,c2,rfl⟩:=Kd.ai r2;have iK:=hd r1;have ia:=hd r2;have HB:=hd hb;clear r1 r2 hb))
 have h2:aJ (w1.alloc (.cells #[.slice A1 (Sp.fR op).length c1,.slice A2 (Sp.gH op).length c2] 178)) base g D fx s vT vF:=aI (aY HS.o HB.o) _;have m2:Mv g w (w1.alloc (.cells #[.slice A1 (Sp.fR op).length c1,.slice A2 (Sp.gH op).length c2] 178)) vT vF vT vF:=(Mv.bF HB.o).alloc _;have q1:bl (w1.alloc (.cells #[.slice A1 (Sp.fR op).length c1,.slice A2 (Sp.gH op).length c2] 178)) base (fun k=>k≠g/\some k≠vT.ownBlock/\some k≠vF.ownBlock) _ _:=Kd.aZ (dw HS.o ki.o iK.o) _;have q2:bl (w1.alloc (.cells #[.slice A1 (Sp.fR op).length c1,.slice A2 (Sp.gH op).length c2] 178)) base (fun k=>k≠g/\some k≠vT.ownBlock/\some k≠vF.ownBlock) _ _:=Kd.aZ (dw HS.o ki.o ia.o) _;have z2:=dh w1 (.cells #[.slice A1 (Sp.fR op).length c1,.slice A2 (Sp.gH op).length c2] 178);have hsz:(w1.alloc (.cells #[.slice A1 (Sp.fR op).length c1,.slice A2 (Sp.gH op).length c2] 178)).heap.size=w1.heap.size+1:=by simp
 have hw1:w.heap.size<=w1.heap.size:=HB.o.size
 go_end0
 refine⟨rfl,vT,vF,m2,?_⟩;rw[HP.o];exact h2
theorem Db(w:World)(base g:Nat)(D:Nat->Prop)(fx:List Value)(s:Sp.St)(vT vF:Value)(h:aJ w base g D fx s vT vF)(hI:Sp.cq s)(hl:s.T.length+8<=1000000)(js:base<=w.heap.size)(op:Int):Calls prog 99 #[.pointer (some ⟨g,0,none⟩),.int .i64 op] w (bN g base D fx w vT vF (.tuple #[]) (s.plain op)):=by
 cases hA:Sp.eD op with
 |true=>
  have ha:=hA
  have hC:decide (Sp.dx op≠0)=false:=by
   simp only[Sp.eD,decide_eq_true_eq]at ha;have h1:=(Sp.oU op).2 (by omega);refine jP (fun q=>?_);have h2:=(Sp.mo op).2 q;omega
  have hN:Sp.fB op=false:=by
   simp only[Sp.eD,decide_eq_true_eq]at ha;have h1:=(Sp.oU op).2 (by omega);simp only[Sp.fB,Sp.isInt,Sp.mV,Bool.or_eq_false_iff,iy];omega
  by_cases hge:54<=op
  ·exact zh w base g D fx s vT vF h hI hl js op hA hge hC hN
  ·exact zi w base g D fx s vT vF h hI hl js op hA hge hC hN
 |false=>
  cases hC:decide (Sp.dx op≠0)with
  |true=>
   have h2:=(Sp.mo op).2 (of_decide_eq_true hC)
   have hN:Sp.fB op=false:=by
    simp only[Sp.fB,Sp.isInt,Sp.mV,Bool.or_eq_false_iff,iy];omega
   exact zj w base g D fx s vT vF h hI hl js op hA hC hN
  |false=>
   cases hN:Sp.fB op with
   |true=>exact zk w base g D fx s vT vF h hI hl js op hA hC hN
   |false=>
    by_cases h1:op=63
    ·exact zl w base g D fx s vT vF h hI hl js op hA hC hN h1 (by simpa using h1)
    by_cases h2:op=64
    ·exact zm w base g D fx s vT vF h hI hl js op hA hC hN h2 (by simpa using h1) (by simpa using h2)
    by_cases h3:op=64520
    ·exact si w base g D fx s vT vF h hI hl js op hA hC hN h3 (by simpa using h1) (by simpa using h2) (by simpa using h3)
    by_cases h4:op=64522
    ·exact sj w base g D fx s vT vF h hI hl js op hA hC hN h4 (by simpa using h1) (by simpa using h2) (by simpa using h3) (by simpa using h4)
    by_cases h5:op=64523
    ·exact sq w base g D fx s vT vF h hI hl js op hA hC hN h5 (by simpa using h1) (by simpa using h2) (by simpa using h3) (by simpa using h4) (by simpa using h5)
    ·exact zo w base g D fx s vT vF h hI hl js op hA hC hN h1 h2 h3 h4 h5 (by simpa using h1) (by simpa using h2) (by simpa using h3) (by simpa using h4) (by simpa using h5)
def fG(g base:Nat)(D:Nat->Prop)(fx:List Value)(w:World)(vT vF:Value)(s':Sp.St)(e:Ending)(w':World):Prop:=
 e= .returned (.bool (!s'.bad))/\ ∃dI eG,Mv g w w' vT vF dI eG/\aJ w' base g D fx s' dI eG
abbrev bX(op a b n:Int)(L:Value):Value:= .agg #[.int .i64 op,.int .i64 a,.int .i64 b,.int .u64 n,L]
abbrev av(op a b n:Int)(L:Value):Obj:= .cells #[.int .i64 op,.int .i64 a,.int .i64 b,.int .u64 n,L] 25
theorem UH(w:World)(base g:Nat)(D:Nat->Prop)(fx:List Value)(s':Sp.St)(vT vF:Value)(a b n:Int)(A:Option Addr)(l c:Nat)(r:Value)(op:Int)(hop:op=0)(cm:Calls prog 90 #[.pointer (some ⟨g,0,none⟩)] (w.alloc (av op a b n (.slice A l c))) (bN g base D fx (w.alloc (av op a b n (.slice A l c))) vT vF r s')):Calls prog 47 #[.pointer (some ⟨g,0,none⟩),bX op a b n (.slice A l c)] w (fG g base D fx w vT vF s'):=by
 subst hop;have HC:=hd cm;clear cm
 go_enter func47,ntmps47
 go_wp2_with (first|((go_at_call 90);(with_reducible refine HC.o.mono ?_);rintro e W⟨rfl,dI,eG,m,hS⟩;obtain⟨bb,ek⟩:=ex s'.bad;have c13:=(aa hS.1 13).trans (dy hS.2.1 _ _ _);rw[<-ek]at c13;have HM:=hd m;have iM:=hd hS;have cE:=hd ek;clear m hS ek))
 go_ret;refine⟨by rw[<-cE.o];rfl,dI,eG,(Mv.bF (af (ay _ _) _)).trans HM.o,iM.o⟩
theorem UI(w:World)(base g:Nat)(D:Nat->Prop)(fx:List Value)(s':Sp.St)(vT vF:Value)(a b n:Int)(A:Option Addr)(l c:Nat)(r:Value)(op:Int)(hop:op=2)(cm:Calls prog 91 #[.pointer (some ⟨g,0,none⟩),bX op a b n (.slice A l c)] (w.alloc (av op a b n (.slice A l c))) (bN g base D fx (w.alloc (av op a b n (.slice A l c))) vT vF r s')):Calls prog 47 #[.pointer (some ⟨g,0,none⟩),bX op a b n (.slice A l c)] w (fG g base D fx w vT vF s'):=by
 subst hop;have HC:=hd cm;clear cm
 go_enter func47,ntmps47
 go_wp2_with (first|((go_at_call 91);(with_reducible refine HC.o.mono ?_);rintro e W⟨rfl,dI,eG,m,hS⟩;obtain⟨bb,ek⟩:=ex s'.bad;have c13:=(aa hS.1 13).trans (dy hS.2.1 _ _ _);rw[<-ek]at c13;have HM:=hd m;have iM:=hd hS;have cE:=hd ek;clear m hS ek))
 go_ret;refine⟨by rw[<-cE.o];rfl,dI,eG,(Mv.bF (af (ay _ _) _)).trans HM.o,iM.o⟩
theorem UJ(w:World)(base g:Nat)(D:Nat->Prop)(fx:List Value)(s':Sp.St)(vT vF:Value)(a b n:Int)(A:Option Addr)(l c:Nat)(r:Value)(op:Int)(hop:op=3)(cm:Calls prog 91 #[.pointer (some ⟨g,0,none⟩),bX op a b n (.slice A l c)] (w.alloc (av op a b n (.slice A l c))) (bN g base D fx (w.alloc (av op a b n (.slice A l c))) vT vF r s')):Calls prog 47 #[.pointer (some ⟨g,0,none⟩),bX op a b n (.slice A l c)] w (fG g base D fx w vT vF s'):=by
 subst hop;have HC:=hd cm;clear cm
 go_enter func47,ntmps47
 go_wp2_with (first|((go_at_call 91);(with_reducible refine HC.o.mono ?_);rintro e W⟨rfl,dI,eG,m,hS⟩;obtain⟨bb,ek⟩:=ex s'.bad;have c13:=(aa hS.1 13).trans (dy hS.2.1 _ _ _);rw[<-ek]at c13;have HM:=hd m;have iM:=hd hS;have cE:=hd ek;clear m hS ek))
 go_ret;refine⟨by rw[<-cE.o];rfl,dI,eG,(Mv.bF (af (ay _ _) _)).trans HM.o,iM.o⟩
theorem UK(w:World)(base g:Nat)(D:Nat->Prop)(fx:List Value)(s':Sp.St)(vT vF:Value)(a b n:Int)(A:Option Addr)(l c:Nat)(r:Value)(op:Int)(hop:op=4)(cm:Calls prog 91 #[.pointer (some ⟨g,0,none⟩),bX op a b n (.slice A l c)] (w.alloc (av op a b n (.slice A l c))) (bN g base D fx (w.alloc (av op a b n (.slice A l c))) vT vF r s')):Calls prog 47 #[.pointer (some ⟨g,0,none⟩),bX op a b n (.slice A l c)] w (fG g base D fx w vT vF s'):=by
 subst hop;have HC:=hd cm;clear cm
 go_enter func47,ntmps47
 go_wp2_with (first|((go_at_call 91);(with_reducible refine HC.o.mono ?_);rintro e W⟨rfl,dI,eG,m,hS⟩;obtain⟨bb,ek⟩:=ex s'.bad;have c13:=(aa hS.1 13).trans (dy hS.2.1 _ _ _);rw[<-ek]at c13;have HM:=hd m;have iM:=hd hS;have cE:=hd ek;clear m hS ek))
 go_ret;refine⟨by rw[<-cE.o];rfl,dI,eG,(Mv.bF (af (ay _ _) _)).trans HM.o,iM.o⟩
theorem UL(w:World)(base g:Nat)(D:Nat->Prop)(fx:List Value)(s':Sp.St)(vT vF:Value)(a b n:Int)(A:Option Addr)(l c:Nat)(r:Value)(op:Int)(hop:op=5)(cm:Calls prog 92 #[.pointer (some ⟨g,0,none⟩)] (w.alloc (av op a b n (.slice A l c))) (bN g base D fx (w.alloc (av op a b n (.slice A l c))) vT vF r s')):Calls prog 47 #[.pointer (some ⟨g,0,none⟩),bX op a b n (.slice A l c)] w (fG g base D fx w vT vF s'):=by
 subst hop;have HC:=hd cm;clear cm
 go_enter func47,ntmps47
 go_wp2_with (first|((go_at_call 92);(with_reducible refine HC.o.mono ?_);rintro e W⟨rfl,dI,eG,m,hS⟩;obtain⟨bb,ek⟩:=ex s'.bad;have c13:=(aa hS.1 13).trans (dy hS.2.1 _ _ _);rw[<-ek]at c13;have HM:=hd m;have iM:=hd hS;have cE:=hd ek;clear m hS ek))
 go_ret;refine⟨by rw[<-cE.o];rfl,dI,eG,(Mv.bF (af (ay _ _) _)).trans HM.o,iM.o⟩
theorem Rx(w:World)(base g:Nat)(D:Nat->Prop)(fx:List Value)(s':Sp.St)(vT vF:Value)(a b n:Int)(A:Option Addr)(l c:Nat)(r:Value)(op:Int)(hop:op=11)(cm:Calls prog 93 #[.pointer (some ⟨g,0,none⟩)] (w.alloc (av op a b n (.slice A l c))) (bN g base D fx (w.alloc (av op a b n (.slice A l c))) vT vF r s')):Calls prog 47 #[.pointer (some ⟨g,0,none⟩),bX op a b n (.slice A l c)] w (fG g base D fx w vT vF s'):=by
 subst hop;have HC:=hd cm;clear cm
 go_enter func47,ntmps47
 go_wp2_with (first|((go_at_call 93);(with_reducible refine HC.o.mono ?_);rintro e W⟨rfl,dI,eG,m,hS⟩;obtain⟨bb,ek⟩:=ex s'.bad;have c13:=(aa hS.1 13).trans (dy hS.2.1 _ _ _);rw[<-ek]at c13;have HM:=hd m;have iM:=hd hS;have cE:=hd ek;clear m hS ek))
 go_ret;refine⟨by rw[<-cE.o];rfl,dI,eG,(Mv.bF (af (ay _ _) _)).trans HM.o,iM.o⟩
theorem Ry(w:World)(base g:Nat)(D:Nat->Prop)(fx:List Value)(s':Sp.St)(vT vF:Value)(a b n:Int)(A:Option Addr)(l c:Nat)(r:Value)(op:Int)(hop:op=12)(cm:Calls prog 94 #[.pointer (some ⟨g,0,none⟩),bX op a b n (.slice A l c)] (w.alloc (av op a b n (.slice A l c))) (bN g base D fx (w.alloc (av op a b n (.slice A l c))) vT vF r s')):Calls prog 47 #[.pointer (some ⟨g,0,none⟩),bX op a b n (.slice A l c)] w (fG g base D fx w vT vF s'):=by
 subst hop;have HC:=hd cm;clear cm
 go_enter func47,ntmps47
 go_wp2_with (first|((go_at_call 94);(with_reducible refine HC.o.mono ?_);rintro e W⟨rfl,dI,eG,m,hS⟩;obtain⟨bb,ek⟩:=ex s'.bad;have c13:=(aa hS.1 13).trans (dy hS.2.1 _ _ _);rw[<-ek]at c13;have HM:=hd m;have iM:=hd hS;have cE:=hd ek;clear m hS ek))
 go_ret;refine⟨by rw[<-cE.o];rfl,dI,eG,(Mv.bF (af (ay _ _) _)).trans HM.o,iM.o⟩
theorem RA(w:World)(base g:Nat)(D:Nat->Prop)(fx:List Value)(s':Sp.St)(vT vF:Value)(a b n:Int)(A:Option Addr)(l c:Nat)(r:Value)(op:Int)(hop:op=13)(cm:Calls prog 94 #[.pointer (some ⟨g,0,none⟩),bX op a b n (.slice A l c)] (w.alloc (av op a b n (.slice A l c))) (bN g base D fx (w.alloc (av op a b n (.slice A l c))) vT vF r s')):Calls prog 47 #[.pointer (some ⟨g,0,none⟩),bX op a b n (.slice A l c)] w (fG g base D fx w vT vF s'):=by
 subst hop;have HC:=hd cm;clear cm
 go_enter func47,ntmps47
 go_wp2_with (first|((go_at_call 94);(with_reducible refine HC.o.mono ?_);rintro e W⟨rfl,dI,eG,m,hS⟩;obtain⟨bb,ek⟩:=ex s'.bad;have c13:=(aa hS.1 13).trans (dy hS.2.1 _ _ _);rw[<-ek]at c13;have HM:=hd m;have iM:=hd hS;have cE:=hd ek;clear m hS ek))
 go_ret;refine⟨by rw[<-cE.o];rfl,dI,eG,(Mv.bF (af (ay _ _) _)).trans HM.o,iM.o⟩
theorem RB(w:World)(base g:Nat)(D:Nat->Prop)(fx:List Value)(s':Sp.St)(vT vF:Value)(a b n:Int)(A:Option Addr)(l c:Nat)(r:Value)(op:Int)(hop:op=14)(cm:Calls prog 94 #[.pointer (some ⟨g,0,none⟩),bX op a b n (.slice A l c)] (w.alloc (av op a b n (.slice A l c))) (bN g base D fx (w.alloc (av op a b n (.slice A l c))) vT vF r s')):Calls prog 47 #[.pointer (some ⟨g,0,none⟩),bX op a b n (.slice A l c)] w (fG g base D fx w vT vF s'):=by
 subst hop;have HC:=hd cm;clear cm
 go_enter func47,ntmps47
 go_wp2_with (first|((go_at_call 94);(with_reducible refine HC.o.mono ?_);rintro e W⟨rfl,dI,eG,m,hS⟩;obtain⟨bb,ek⟩:=ex s'.bad;have c13:=(aa hS.1 13).trans (dy hS.2.1 _ _ _);rw[<-ek]at c13;have HM:=hd m;have iM:=hd hS;have cE:=hd ek;clear m hS ek))
 go_ret;refine⟨by rw[<-cE.o];rfl,dI,eG,(Mv.bF (af (ay _ _) _)).trans HM.o,iM.o⟩
theorem RD(w:World)(base g:Nat)(D:Nat->Prop)(fx:List Value)(s':Sp.St)(vT vF:Value)(a b n:Int)(A:Option Addr)(l c:Nat)(r:Value)(op:Int)(hop:op=15)(cm:Calls prog 94 #[.pointer (some ⟨g,0,none⟩),bX op a b n (.slice A l c)] (w.alloc (av op a b n (.slice A l c))) (bN g base D fx (w.alloc (av op a b n (.slice A l c))) vT vF r s')):Calls prog 47 #[.pointer (some ⟨g,0,none⟩),bX op a b n (.slice A l c)] w (fG g base D fx w vT vF s'):=by
 subst hop;have HC:=hd cm;clear cm
 go_enter func47,ntmps47
 go_wp2_with (first|((go_at_call 94);(with_reducible refine HC.o.mono ?_);rintro e W⟨rfl,dI,eG,m,hS⟩;obtain⟨bb,ek⟩:=ex s'.bad;have c13:=(aa hS.1 13).trans (dy hS.2.1 _ _ _);rw[<-ek]at c13;have HM:=hd m;have iM:=hd hS;have cE:=hd ek;clear m hS ek))
 go_ret;refine⟨by rw[<-cE.o];rfl,dI,eG,(Mv.bF (af (ay _ _) _)).trans HM.o,iM.o⟩
theorem RF(w:World)(base g:Nat)(D:Nat->Prop)(fx:List Value)(s':Sp.St)(vT vF:Value)(a b n:Int)(A:Option Addr)(l c:Nat)(r:Value)(op:Int)(hop:op=16)(cm:Calls prog 95 #[.pointer (some ⟨g,0,none⟩),bX op a b n (.slice A l c)] (w.alloc (av op a b n (.slice A l c))) (bN g base D fx (w.alloc (av op a b n (.slice A l c))) vT vF r s')):Calls prog 47 #[.pointer (some ⟨g,0,none⟩),bX op a b n (.slice A l c)] w (fG g base D fx w vT vF s'):=by
 subst hop;have HC:=hd cm;clear cm
 go_enter func47,ntmps47
 go_wp2_with (first|((go_at_call 95);(with_reducible refine HC.o.mono ?_);rintro e W⟨rfl,dI,eG,m,hS⟩;obtain⟨bb,ek⟩:=ex s'.bad;have c13:=(aa hS.1 13).trans (dy hS.2.1 _ _ _);rw[<-ek]at c13;have HM:=hd m;have iM:=hd hS;have cE:=hd ek;clear m hS ek))
 go_ret;refine⟨by rw[<-cE.o];rfl,dI,eG,(Mv.bF (af (ay _ _) _)).trans HM.o,iM.o⟩
theorem RG(w:World)(base g:Nat)(D:Nat->Prop)(fx:List Value)(s':Sp.St)(vT vF:Value)(a b n:Int)(A:Option Addr)(l c:Nat)(r:Value)(op:Int)(hop:op=18)(cm:Calls prog 95 #[.pointer (some ⟨g,0,none⟩),bX op a b n (.slice A l c)] (w.alloc (av op a b n (.slice A l c))) (bN g base D fx (w.alloc (av op a b n (.slice A l c))) vT vF r s')):Calls prog 47 #[.pointer (some ⟨g,0,none⟩),bX op a b n (.slice A l c)] w (fG g base D fx w vT vF s'):=by
 subst hop;have HC:=hd cm;clear cm
 go_enter func47,ntmps47
 go_wp2_with (first|((go_at_call 95);(with_reducible refine HC.o.mono ?_);rintro e W⟨rfl,dI,eG,m,hS⟩;obtain⟨bb,ek⟩:=ex s'.bad;have c13:=(aa hS.1 13).trans (dy hS.2.1 _ _ _);rw[<-ek]at c13;have HM:=hd m;have iM:=hd hS;have cE:=hd ek;clear m hS ek))
 go_ret;refine⟨by rw[<-cE.o];rfl,dI,eG,(Mv.bF (af (ay _ _) _)).trans HM.o,iM.o⟩
theorem RH(w:World)(base g:Nat)(D:Nat->Prop)(fx:List Value)(s':Sp.St)(vT vF:Value)(a b n:Int)(A:Option Addr)(l c:Nat)(r:Value)(op:Int)(hop:op=26)(cm:Calls prog 96 #[.pointer (some ⟨g,0,none⟩)] (w.alloc (av op a b n (.slice A l c))) (bN g base D fx (w.alloc (av op a b n (.slice A l c))) vT vF r s')):Calls prog 47 #[.pointer (some ⟨g,0,none⟩),bX op a b n (.slice A l c)] w (fG g base D fx w vT vF s'):=by
 subst hop;have HC:=hd cm;clear cm
 go_enter func47,ntmps47
 go_wp2_with (first|((go_at_call 96);(with_reducible refine HC.o.mono ?_);rintro e W⟨rfl,dI,eG,m,hS⟩;obtain⟨bb,ek⟩:=ex s'.bad;have c13:=(aa hS.1 13).trans (dy hS.2.1 _ _ _);rw[<-ek]at c13;have HM:=hd m;have iM:=hd hS;have cE:=hd ek;clear m hS ek))
 go_ret;refine⟨by rw[<-cE.o];rfl,dI,eG,(Mv.bF (af (ay _ _) _)).trans HM.o,iM.o⟩
theorem RI(w:World)(base g:Nat)(D:Nat->Prop)(fx:List Value)(s':Sp.St)(vT vF:Value)(a b n:Int)(A:Option Addr)(l c:Nat)(r:Value)(op:Int)(hop:op=27)(cm:Calls prog 97 #[.pointer (some ⟨g,0,none⟩)] (w.alloc (av op a b n (.slice A l c))) (bN g base D fx (w.alloc (av op a b n (.slice A l c))) vT vF r s')):Calls prog 47 #[.pointer (some ⟨g,0,none⟩),bX op a b n (.slice A l c)] w (fG g base D fx w vT vF s'):=by
 subst hop;have HC:=hd cm;clear cm
 go_enter func47,ntmps47
 go_wp2_with (first|((go_at_call 97);(with_reducible refine HC.o.mono ?_);rintro e W⟨rfl,dI,eG,m,hS⟩;obtain⟨bb,ek⟩:=ex s'.bad;have c13:=(aa hS.1 13).trans (dy hS.2.1 _ _ _);rw[<-ek]at c13;have HM:=hd m;have iM:=hd hS;have cE:=hd ek;clear m hS ek))
 go_ret;refine⟨by rw[<-cE.o];rfl,dI,eG,(Mv.bF (af (ay _ _) _)).trans HM.o,iM.o⟩
theorem RJ(w:World)(base g:Nat)(D:Nat->Prop)(fx:List Value)(s':Sp.St)(vT vF:Value)(a b n:Int)(A:Option Addr)(l c:Nat)(r:Value)(op:Int)(hop:op=32)(cm:Calls prog 98 #[.pointer (some ⟨g,0,none⟩),bX op a b n (.slice A l c)] (w.alloc (av op a b n (.slice A l c))) (bN g base D fx (w.alloc (av op a b n (.slice A l c))) vT vF r s')):Calls prog 47 #[.pointer (some ⟨g,0,none⟩),bX op a b n (.slice A l c)] w (fG g base D fx w vT vF s'):=by
 subst hop;have HC:=hd cm;clear cm
 go_enter func47,ntmps47
 go_wp2_with (first|((go_at_call 98);(with_reducible refine HC.o.mono ?_);rintro e W⟨rfl,dI,eG,m,hS⟩;obtain⟨bb,ek⟩:=ex s'.bad;have c13:=(aa hS.1 13).trans (dy hS.2.1 _ _ _);rw[<-ek]at c13;have HM:=hd m;have iM:=hd hS;have cE:=hd ek;clear m hS ek))
 go_ret;refine⟨by rw[<-cE.o];rfl,dI,eG,(Mv.bF (af (ay _ _) _)).trans HM.o,iM.o⟩
theorem RM(w:World)(base g:Nat)(D:Nat->Prop)(fx:List Value)(s':Sp.St)(vT vF:Value)(a b n:Int)(A:Option Addr)(l c:Nat)(r:Value)(op:Int)(hop:op=33)(cm:Calls prog 98 #[.pointer (some ⟨g,0,none⟩),bX op a b n (.slice A l c)] (w.alloc (av op a b n (.slice A l c))) (bN g base D fx (w.alloc (av op a b n (.slice A l c))) vT vF r s')):Calls prog 47 #[.pointer (some ⟨g,0,none⟩),bX op a b n (.slice A l c)] w (fG g base D fx w vT vF s'):=by
 subst hop;have HC:=hd cm;clear cm
 go_enter func47,ntmps47
 go_wp2_with (first|((go_at_call 98);(with_reducible refine HC.o.mono ?_);rintro e W⟨rfl,dI,eG,m,hS⟩;obtain⟨bb,ek⟩:=ex s'.bad;have c13:=(aa hS.1 13).trans (dy hS.2.1 _ _ _);rw[<-ek]at c13;have HM:=hd m;have iM:=hd hS;have cE:=hd ek;clear m hS ek))
 go_ret;refine⟨by rw[<-cE.o];rfl,dI,eG,(Mv.bF (af (ay _ _) _)).trans HM.o,iM.o⟩
theorem RN(w:World)(base g:Nat)(D:Nat->Prop)(fx:List Value)(s':Sp.St)(vT vF:Value)(a b n:Int)(A:Option Addr)(l c:Nat)(r:Value)(op:Int)(hop:op=34)(cm:Calls prog 98 #[.pointer (some ⟨g,0,none⟩),bX op a b n (.slice A l c)] (w.alloc (av op a b n (.slice A l c))) (bN g base D fx (w.alloc (av op a b n (.slice A l c))) vT vF r s')):Calls prog 47 #[.pointer (some ⟨g,0,none⟩),bX op a b n (.slice A l c)] w (fG g base D fx w vT vF s'):=by
 subst hop;have HC:=hd cm;clear cm
 go_enter func47,ntmps47
 go_wp2_with (first|((go_at_call 98);(with_reducible refine HC.o.mono ?_);rintro e W⟨rfl,dI,eG,m,hS⟩;obtain⟨bb,ek⟩:=ex s'.bad;have c13:=(aa hS.1 13).trans (dy hS.2.1 _ _ _);rw[<-ek]at c13;have HM:=hd m;have iM:=hd hS;have cE:=hd ek;clear m hS ek))
 go_ret;refine⟨by rw[<-cE.o];rfl,dI,eG,(Mv.bF (af (ay _ _) _)).trans HM.o,iM.o⟩
theorem RO(w:World)(base g:Nat)(D:Nat->Prop)(fx:List Value)(s':Sp.St)(vT vF:Value)(a b n:Int)(A:Option Addr)(l c:Nat)(r:Value)(op:Int)(hop:op=35)(cm:Calls prog 98 #[.pointer (some ⟨g,0,none⟩),bX op a b n (.slice A l c)] (w.alloc (av op a b n (.slice A l c))) (bN g base D fx (w.alloc (av op a b n (.slice A l c))) vT vF r s')):Calls prog 47 #[.pointer (some ⟨g,0,none⟩),bX op a b n (.slice A l c)] w (fG g base D fx w vT vF s'):=by
 subst hop;have HC:=hd cm;clear cm
 go_enter func47,ntmps47
 go_wp2_with (first|((go_at_call 98);(with_reducible refine HC.o.mono ?_);rintro e W⟨rfl,dI,eG,m,hS⟩;obtain⟨bb,ek⟩:=ex s'.bad;have c13:=(aa hS.1 13).trans (dy hS.2.1 _ _ _);rw[<-ek]at c13;have HM:=hd m;have iM:=hd hS;have cE:=hd ek;clear m hS ek))
 go_ret;refine⟨by rw[<-cE.o];rfl,dI,eG,(Mv.bF (af (ay _ _) _)).trans HM.o,iM.o⟩
theorem RP(w:World)(base g:Nat)(D:Nat->Prop)(fx:List Value)(s':Sp.St)(vT vF:Value)(a b n:Int)(A:Option Addr)(l c:Nat)(r:Value)(op:Int)(hop:op=36)(cm:Calls prog 98 #[.pointer (some ⟨g,0,none⟩),bX op a b n (.slice A l c)] (w.alloc (av op a b n (.slice A l c))) (bN g base D fx (w.alloc (av op a b n (.slice A l c))) vT vF r s')):Calls prog 47 #[.pointer (some ⟨g,0,none⟩),bX op a b n (.slice A l c)] w (fG g base D fx w vT vF s'):=by
 subst hop;have HC:=hd cm;clear cm
 go_enter func47,ntmps47
 go_wp2_with (first|((go_at_call 98);(with_reducible refine HC.o.mono ?_);rintro e W⟨rfl,dI,eG,m,hS⟩;obtain⟨bb,ek⟩:=ex s'.bad;have c13:=(aa hS.1 13).trans (dy hS.2.1 _ _ _);rw[<-ek]at c13;have HM:=hd m;have iM:=hd hS;have cE:=hd ek;clear m hS ek))
 go_ret;refine⟨by rw[<-cE.o];rfl,dI,eG,(Mv.bF (af (ay _ _) _)).trans HM.o,iM.o⟩
theorem KH(w:World)(base g:Nat)(D:Nat->Prop)(fx:List Value)(s':Sp.St)(vT vF:Value)(a b n:Int)(A:Option Addr)(l c:Nat)(r:Value)(op:Int)(b0:(op==0)=false)(b2:(op==2)=false)(b3:(op==3)=false)(b4:(op==4)=false)(b5:(op==5)=false)(b11:(op==11)=false)(zq:(op==12)=false)(DY:(op==13)=false)(Fa:(op==14)=false)(b15:(op==15)=false)(Gn:(op==16)=false)(Hr:(op==18)=false)(b26:(op==26)=false)(b27:(op==27)=false)(b32:(op==32)=false)(KI:(op==33)=false)(L9:(op==34)=false)(NT:(op==35)=false)(Qe:(op==36)=false)(cm:Calls prog 99 #[.pointer (some ⟨g,0,none⟩),.int .i64 op] (w.alloc (av op a b n (.slice A l c))) (bN g base D fx (w.alloc (av op a b n (.slice A l c))) vT vF r s')):Calls prog 47 #[.pointer (some ⟨g,0,none⟩),bX op a b n (.slice A l c)] w (fG g base D fx w vT vF s'):=by
 have HC:=hd cm;clear cm
 go_enter func47,ntmps47
 go_wp2_with (first|((go_at_call 99);(with_reducible refine HC.o.mono ?_);rintro e W⟨rfl,dI,eG,m,hS⟩;obtain⟨bb,ek⟩:=ex s'.bad;have c13:=(aa hS.1 13).trans (dy hS.2.1 _ _ _);rw[<-ek]at c13;have HM:=hd m;have iM:=hd hS;have cE:=hd ek;clear m hS ek))
 go_ret;refine⟨by rw[<-cE.o];rfl,dI,eG,(Mv.bF (af (ay _ _) _)).trans HM.o,iM.o⟩
theorem Fb(n:Int)(w:World)(h0:0<=n)(h1:n<=2000000):Calls prog 192 #[.slice none 0 0,.int .i64 n] w (fun e w'=> ∃A c,e= .returned (.slice A 0 c)/\cO w' w.heap.size (.slice A 0 c) []/\Below w.heap.size w w'):=by
 have hw:wrap64 n=n:=Tx.xR (by omega) (by omega);have hn: ¬n<0:=by omega
 by_cases hp:0<n
 ·have HW:=hd hw;have H0:=hd h0;have H1:=hd h1
  have hd9:decide (0<n)=true:=iz hp;have hd2:decide (n<0)=false:=jP hn;clear h1
  go_enter func192,ntmps192
  go_wp2_with (at_builtin;(refine Kd.yx (Kd.int .i64) (w0:=w) w.heap.size rfl (.tmp 20) (.tmp 21) 23 3 3 (.int .i64 0) 8 rfl underlying23 underlying3 cQ rfl Nat.zero_lt_one (dG 7) _ [] 0 (wrap64 n) (fun _=>True) rfl rfl ?hz (fun _ _=>trivial) ?ho ?h0 ?hb ?hsz ?hl ?_);(case hz=>rfl);(case ho=>exact Kd.fS _ _ _ _ _);(case h0=>rw[HW.o];exact H0.o);(case hb=>exact ay _ _);(case hsz=>exact aU _);(case hl=>have:=H1.o;have:=H0.o;rw[HW.o];simp;omega);intro v1 w1 hR hB hG hat;obtain⟨A1,c1,rfl⟩:=Kd.ai hR;have HR:=hd hR;have HB:=hd hB;clear hR hB hG hat)
  go_ret;exact⟨_,_,rfl,Kd.nR (m:=0) HR.o (Nat.zero_le _),HB.o⟩
 ·obtain rfl:n=0:=by omega
  clear h0 h1 hw hn hp
  go_enter func192,ntmps192
  go_wp2
  go_ret;exact⟨_,_,rfl,Kd.fS _ _ _ _ _,ay _ _⟩
theorem AU(A B:Option Addr)(cA cB b:Nat)(xs ys:List Int)(w:World)(hb0:w.cell? ⟨b,0,none⟩=some (.slice A xs.length cA))(hb1:w.cell? ⟨b,1,none⟩=some (.slice B ys.length cB))(hx:bf w A xs)(hy:bf w B ys)(lx:xs.length<=1000000)(ly:ys.length<=1000000):
 Calls prog 142 #[.slice (some ⟨b,0,none⟩) 2 2] w (CJ (xs++ys) w):=by
 have w1a:wrap64 (xs.length:Int)=xs.length:=Tx.xR (by omega) (by omega);have w2a:wrap64 ((xs.length:Int)+ys.length)=(xs.length:Int)+ys.length:=Tx.xR (by omega) (by omega);have BB:decide ((xs.length:Int)<0)=false:=jP (by omega);have hn2:decide ((xs.length:Int)+ys.length<0)=false:=jP (by omega);have RQ:b<w.heap.size:=aR w ⟨b,0,none⟩ hb0;have HG:=hd (fun(w:World)=>Fb ((xs.length:Int)+ys.length) w (by omega) (by omega));have HX:=hd hx;have HY:=hd hy;have LX:=hd lx;have LY:=hd ly;have Xi:=hd hb0;have EZ:=hd hb1;clear hx hy lx ly
 go_enter func142,ntmps142
 go_wp2
 refine wp_loop_rounds 3 ?_;rw[rounds_succ];go_wp2;rw[rounds_succ];go_wp2;rw[rounds_succ];go_wp2_with (first|((go_at_call 192);(with_reducible refine(HG.o _).mono ?_);rintro e w1⟨A1,c1,rfl,hR,hB⟩;have d0:=(hB.cell (p:=⟨b,0,none⟩) RQ).trans Xi.o;have d1:=(hB.cell (p:=⟨b,1,none⟩) RQ).trans EZ.o;have HR:=hd hR;have HB:=hd hB;clear hR hB));refine wp_loop_rounds 3 ?_;rw[rounds_succ];go_wp2_with (at_builtin;(refine Kd.fF (Kd.int .i64) (w0:=w) w.heap.size rfl (.tmp 31) (.tmp 32) 23 3 (.int .i64 0) 8 rfl underlying23 cQ rfl Nat.zero_lt_one (dG 7) _ [] xs A xs.length cA (fun _=>True) (fun _=>False) rfl rfl ?ho ?hr (fun _ _ h=>h) (fun _ h=>h.elim) (fun _ _=>trivial) ?hb ?hsz ?hl2 ?_);(case ho=>exact HR.o);(case hr=>exact Kd.bJ HX.o HB.o);(case hb=>exact HB.o);(case hsz=>exact HB.o.size);(case hl2=>have:=LX.o;have:=LY.o;simp;omega);intro v1 w2 hR hB hG hat;obtain⟨P1,k1,rfl⟩:=Kd.ai hR;have d2:=(hB.cell (p:=⟨b,1,none⟩) RQ).trans EZ.o;have iK:=hd hR;have bE:=hd hB;clear hR hB hG hat);rw[rounds_succ];go_wp2_with (at_builtin;(refine Kd.fF (Kd.int .i64) (w0:=w) w.heap.size rfl (.tmp 31) (.tmp 32) 23 3 (.int .i64 0) 8 rfl underlying23 cQ rfl Nat.zero_lt_one (dG 7) _ ([]++xs) ys B ys.length cB (fun _=>True) (fun _=>False) rfl rfl ?ho ?hr (fun _ _ h=>h) (fun _ h=>h.elim) (fun _ _=>trivial) ?hb ?hsz ?hl2 ?_);(case ho=>exact iK.o);(case hr=>exact Kd.bJ HY.o bE.o);(case hb=>exact bE.o);(case hsz=>exact bE.o.size);(case hl2=>have:=LX.o;have:=LY.o;simp;omega);intro v2 w3 hR hB hG hat;obtain⟨P2,k2,rfl⟩:=Kd.ai hR;have d3:=(hB.cell (p:=⟨b,1,none⟩) RQ).trans EZ.o;have ia:=hd hR;have bw:=hd hB;clear hR hB hG hat);rw[rounds_succ];go_wp2;go_ret;have hr:=ia.o;rw[List.nil_append,List.length_append]at hr;exact⟨.slice P2 (xs.length+ys.length) k2,rfl,hr,bw.o⟩
theorem AV(M:bL)(cs:List Value)(j:Int)(w:World)(hM:bZ.K w M cs)(n1:M.f1.length<=1000000)(n2:M.f2.length<=1000000)(hs:fh M.f0)(h0:0<=j)(h1:j<M.f2.length)(t:ig)(ht:Sp.aM M ((M.f1.length:Int)+j)=some t)(lp:t.f0.length<=1000000)(ll:(aF M.f2 j).f1.length<=1000000):
 Calls prog 85 #[.agg cs.toArray,.int .i64 ((M.f1.length:Int)+j)] w (CJ (t.f0++(aF M.f2 j).f1) w):=by
 obtain⟨A0,c0,A1,c1,A2,c2,A3,c3,A4,c4,A5,c5,A6,c6,A7,c7,rfl,l0,g0,l1,g1,l2,g2,-⟩:=aD hM;obtain⟨ad,B2,d2,B3,d3,rfl,e2,e3,e4,l4,q4,-⟩:=ku g2 j h0 h1;have bI:=aR w _ e3;have HS:=hd (iF M _ ((M.f1.length:Int)+j) (w.alloc (.cells #[.slice A0 M.f0.length c0,.slice A1 M.f1.length c1,.slice (some ad) M.f2.length c2,.slice A3 M.f3.length c3,.slice A4 M.f4.length c4,.slice A5 M.f5.length c5,.slice A6 M.f6.length c6,.slice A7 M.f7.length c7] 37)) (Kd.dJ bZ (af (ay _ _) _) hM) n1 n2 hs (by omega) (by omega));rw[ht]at HS;have hw:wrap64 j=j:=Tx.xR (by omega) (by omega);have hj:(M.f1.length:Int)+j-(M.f1.length:Int)=j:=by omega
 have hf0:decide ((M.f1.length:Int)+j<0)=false:=jP (by omega);have w3:Sp.within j 0 ((M.f2.length:Int)-1)=true:=by simp[Sp.within];omega
 have HQ:=hd q4;have HE:=hd e4;have Rn:=hd e3;have LP:=hd lp;have LL:=hd ll;obtain⟨nl,hnl⟩:=ex ((aF M.f2 j).f1);rw[<-hnl]at Rn HQ LL⊢;clear e2 e3 e4 q4 g0 g1 g2 hM hs ht l0 l1 l2 l4 lp ll n1 hnl
 go_enter func85,ntmps85
 go_wp2_with (first|((go_at_call 84);(with_reducible refine HS.o.mono ?_);rintro e w2⟨v1,v2,rfl,r1,r2,hb⟩;simp only[Option.getD_some,Option.isSome_some]at r1 r2⊢;obtain⟨P1,k1,rfl⟩:=Kd.ai r1;obtain⟨P2,k2,rfl⟩:=Kd.ai r2;have x0:=(hb.block w.heap.size (by simp)).trans (dh w _);have y2:=(aa x0 2).trans rfl;have hsz:w.heap.size<w2.heap.size:=(by have:=hb.size;simp at this;omega);have Hi:=hd x0;have iK:=hd r1;have bw:=hd hb;clear r1 r2 hb x0)|((go_at_call 137);(refine(aT _ _ _).mono ?_);rintro e w'⟨rfl,rfl⟩))
 have hB:Below w.heap.size w (w2.alloc (.cells #[.slice P1 t.f0.length k1,.slice P2 t.f1.length k2] 40)):=af (aA (af (ay _ _) _) (by simp) bw.o) _;have z6:=dh w2 (.cells #[.slice P1 t.f0.length k1,.slice P2 t.f1.length k2] 40);have z0:=bh Hi.o (.cells #[.slice P1 t.f0.length k1,.slice P2 t.f1.length k2] 40);have q1:cO (w2.alloc (.cells #[.slice P1 t.f0.length k1,.slice P2 t.f1.length k2] 40)) w.heap.size (.slice P1 t.f0.length k1) t.f0:=Kd.aZ (bO iK.o (by simp)) _;have Hh:(w2.alloc (.cells #[.slice P1 t.f0.length k1,.slice P2 t.f1.length k2] 40)).heap.size=w2.heap.size+1:=by simp
 clear y2;generalize w2.alloc (.cells #[.slice P1 t.f0.length k1,.slice P2 t.f1.length k2] 40)=W at hB z6 z0 q1 Hh⊢;have s6:=(aa z6 0).trans rfl;have s2:=(aa z0 2).trans rfl;have s3:=(hB.cell (p:=⟨(ad.add (j.toNat*3)).block,(ad.add (j.toNat*3)).off+1,none⟩) bI).trans Rn.o;have cE:=hd hB;have Qd:=hd q1;clear hB z6 z0 q1;refine st 11 (fun w'=>w'.cell? ⟨w2.heap.size,0,none⟩=some (.slice P1 t.f0.length k1)/\w'.cell? ⟨w.heap.size,2,none⟩=some (.slice (some ad) M.f2.length c2)/\w'.cell? ⟨(ad.add (j.toNat*3)).block,(ad.add (j.toNat*3)).off+1,none⟩=some (.slice B2 nl.length d2)) [] ⟨s6,s2,s3⟩ (fun ag=>?_);refine pu 0 33 ?_;refine tk 1 34 ag ?_;refine pu 2 35 ?_;refine tk 3 36 ag ?_;refine cZ 4 37 5 38 6 39 ?_;refine tk 7 40 ag ?_;refine on 8 (some 41) (fun K hK=>?_);rw[if_pos (by rfl)]
 go_simp
 refine hK.o _ _ (by obtain⟨s0,s1,s2⟩:=ag;exact⟨ak s0,ak s1,ak s2⟩) (fun ag=>?_);clear hK K;refine on 9 (some 42) (fun K hK=>?_);refine om func142 (by kernel_rfl) rfl #[.slice (some ⟨w2.heap.size+1,0,none⟩) 2 2] (by rfl) rfl rfl (by simp only[List.map_toArray,List.map_cons,List.map_nil];rfl) ?_;have HN:Hid ((W.drew.alloc (.cells #[.slice P1 t.f0.length k1,.slice B2 nl.length d2] 23)).heap[w2.heap.size+1]? =some (.cells #[.slice P1 t.f0.length k1,.slice B2 nl.length d2] 23 (0,0))):=hd (by have q:=dh W.drew (.cells #[.slice P1 t.f0.length k1,.slice B2 nl.length d2] 23);rw[show W.drew.heap.size=w2.heap.size+1 from Hh]at q;exact q);refine(AU P1 B2 k1 d2 (w2.heap.size+1) t.f0 nl (W.drew.alloc (.cells #[.slice P1 t.f0.length k1,.slice B2 nl.length d2] 23)) ((aa HN.o 0).trans rfl) ((aa HN.o 1).trans rfl) (Kd.aS (Kd.eL (Kd.bA Qd.o).2.2) _) (Kd.aS (Kd.eL (Kd.bJ HQ.o cE.o)) _) LP.o LL.o).mono ?_;rintro e w4⟨v4,rfl,r4,hb4⟩;have Wq:=hd r4;have bP:=hd hb4;refine⟨_,rfl,?_⟩;refine hK.o _ _ (by obtain⟨s0,s1,s2⟩:=ag;exact⟨(bP.o.cell (aR _ _ s0)).trans s0,(bP.o.cell (aR _ _ s1)).trans s1,(bP.o.cell (aR _ _ s2)).trans s2⟩) (fun ag=>?_);clear hK K;refine nm ?_;refine pu 10 4 ?_;refine dn ?_
 go_wp2_with fail
 go_ret;have hs1:=cE.o.size;exact⟨v4,rfl,bO Wq.o (by simp;omega),aA (af (aX cE.o) _) (by simp;omega) bP.o⟩
theorem zu(W:World)(base:Nat)(ok:Nat->Prop)(hb:base<=W.heap.size)(fr:xB)(v1 v2:Value)(r1:bl W base ok v1 fr.f1.f0)(r2:bl W base ok v2 fr.f1.f1)(hok:ok W.heap.size):
 iG (W.alloc (.cells #[.int .i64 fr.f0,v1,v2,.int .i64 fr.f2,.bool fr.f3] 113)) base ok (.slice (some ⟨W.heap.size,0,none⟩) 1 1) [fr]:=by
 have Mn:dU (L3.M W base ok) L3.sz ([]++ [fr]) ([]++ [.int .i64 fr.f0,v1,v2,.int .i64 fr.f2,.bool fr.f3]):=dU.snoc (dU.none _ _) (xC _ _ _ fr r1 r2) rfl;simp only[List.nil_append]at Mn;refine⟨fun k hk=>?_,[.int .i64 fr.f0,v1,v2,.int .i64 fr.f2,.bool fr.f3],?_,?_⟩
 ·have:W.heap.size=k:=by simpa[Value.ownBlock]using hk
  subst this;exact hok
 ·have h2:=World.ownsRow_lit (base:=base) (e:=113) (size:=L3.sz) W #[.int .i64 fr.f0,v1,v2,.int .i64 fr.f2,.bool fr.f3] 1 hb (by decide) rfl
  simpa using h2
 ·refine Mn.lU (fun p c hp=>L3.fV (fun k hk=>⟨hk.1,fun he=>?_⟩) (Kd.II (L3.gF hp) (af (ay _ _) _)))
  have h3:k=W.heap.size:=by simpa[Value.ownBlock]using he
  have:=hk.2.2.1;omega
def di(vL v1 v2:Value):Nat->Prop:=fun k=>some k=vL.ownBlock\/some k=v1.ownBlock\/some k=v2.ownBlock
def dO(w:World)(base:Nat)(E:Sp.Env)(cs:List Value)(vL v1 v2:Value):Prop:=
 ∃w0:World,base=w0.heap.size/\bZ.K w0 E.M cs/\Below base w0 w/\bl w base (di vL v1 v2) vL E.L/\bl w base (di vL v1 v2) v1 E.S.f0/\bl w base (di vL v1 v2) v2 E.S.f1
def NU(E:Sp.Env)(cs:List Value)(w:World)(e:Ending)(w':World):Prop:=
 ∃g vL v1 v2 vT vF,e= .returned (.pointer (some ⟨g,0,none⟩))/\Below w.heap.size w w'/\dO w' w.heap.size E cs vL v1 v2/\aJ w' w.heap.size g (di vL v1 v2) (cs++ [vL,v1,v2]) ⟨[],[⟨2,⟨[],E.S.f1⟩,0,false⟩],false⟩ vT vF
theorem vI{w:World}{base:Nat}{v:Value}{xs:List Int}{D:Nat->Prop}(h:cO w base v xs)(hD: ∀k,v.ownBlock=some k->D k):bl w base D v xs:=by
 obtain⟨h0,inner,ho,hr⟩:=h;exact⟨hD,inner,ho,hr.lU (fun _ _ hp=>hp)⟩
theorem BQ{w X:World}{E:Sp.Env}{cs:List Value}{vL v1 v2:Value}{nf:Nat}(hM:bZ.K w E.M cs)(h8:cs.length=8)(hB:Below w.heap.size w X)(qL:cO X w.heap.size vL E.L)(q1:cO X w.heap.size v1 E.S.f0)(q2:cO X w.heap.size v2 E.S.f1)
 (hF:iG X w.heap.size (fun _=>True) (.slice (some ⟨nf,0,none⟩) 1 1) [⟨2,⟨[],E.S.f1⟩,0,false⟩]) (hne: ∀k,di vL v1 v2 k->k≠nf):
 NU E cs w (.returned (.pointer (some ⟨X.heap.size,0,none⟩))) (X.alloc (.cells (ee (cs++ [vL,v1,v2]) (.slice none 0 0) (.slice (some ⟨nf,0,none⟩) 1 1) false) 111)):=by
 have lD: ∀k,di vL v1 v2 k->k<X.heap.size:=fun k hk=>by
  rcases hk with h|h|h
  ·exact Kd.gY qL k h.symm
  ·exact Kd.gY q1 k h.symm
  ·exact Kd.gY q2 k h.symm
 have hb2:Below X.heap.size X (X.alloc (.cells (ee (cs++ [vL,v1,v2]) (.slice none 0 0) (.slice (some ⟨nf,0,none⟩) 1 1) false) 111)):=af (ay _ _) _;refine⟨X.heap.size,vL,v1,v2,.slice none 0 0,.slice (some ⟨nf,0,none⟩) 1 1,rfl,aA hB hB.size hb2,⟨w,rfl,hM,aA hB hB.size hb2,?_,?_,?_⟩,dh X _,by simp[h8],hB.size,fun hk=>?_,Kd.fS _ _ _ _ _,?_,fun k hk hd9=>?_,fun k hk=>?_⟩
 ·exact Kd.cM (vI qL (fun k hk=> .inl hk.symm)) hb2
 ·exact Kd.cM (vI q1 (fun k hk=> .inr (.inl hk.symm))) hb2
 ·exact Kd.cM (vI q2 (fun k hk=> .inr (.inr hk.symm))) hb2
 ·have:=lD _ hk;omega
 ·exact Kd.cM (Kd.bQ (Kd.fW hF) (fun k hk=>⟨by have:=hk.2.2.1;omega,by simp[Value.ownBlock]⟩)) hb2
 ·have e:nf=k:=by simpa[Value.ownBlock]using hk
  exact hne k hd9 e.symm
 ·have:=lD k hk;simp;omega
theorem BR(M:bL)(cs:List Value)(j:Int)(w:World)(hM:bZ.K w M cs)(n1:M.f1.length<=1000000)(n2:M.f2.length<=1000000)(hs:fh M.f0)(h0:0<=j)(h1:j<M.f2.length)(t:ig)(ht:Sp.aM M ((M.f1.length:Int)+j)=some t)(lp:t.f0.length<=1000000)(ll:(aF M.f2 j).f1.length<=1000000):
 Calls prog 44 #[.agg cs.toArray,.int .i64 j] w (NU ⟨M,t.f0++(aF M.f2 j).f1,t⟩ cs w):=by
 obtain⟨A0,c0,A1,c1,A2,c2,A3,c3,A4,c4,A5,c5,A6,c6,A7,c7,rfl,l0,g0,-⟩:=aD hM;have HS:=hd (iF M _ ((M.f1.length:Int)+j) (w.alloc (.cells #[.slice A0 M.f0.length c0,.slice A1 M.f1.length c1,.slice A2 M.f2.length c2,.slice A3 M.f3.length c3,.slice A4 M.f4.length c4,.slice A5 M.f5.length c5,.slice A6 M.f6.length c6,.slice A7 M.f7.length c7] 37)) (Kd.dJ bZ (af (ay _ _) _) hM) n1 n2 hs (by omega) (by omega));rw[ht]at HS;have hw:wrap64 (j+(M.f1.length:Int))=(M.f1.length:Int)+j:=by rw[Int.add_comm];exact Tx.xR (by omega) (by omega)
 have HLOC:=hd (fun(W:World) (hb:Below w.heap.size w W)=>AV M _ j W (Kd.dJ bZ hb hM) n1 n2 hs h0 h1 t ht lp ll);have HK:=hd hM;obtain⟨nl,hnl⟩:=ex (t.f0++(aF M.f2 j).f1);rw[<-hnl]at HLOC⊢;clear g0 hM hs ht l0 lp ll n1 hnl h0 h1 n2
 go_enter func44,ntmps44
 go_wp2_with (first|((go_at_call 84);(with_reducible refine HS.o.mono ?_);rintro e w2⟨v1,v2,rfl,r1,r2,hb⟩;simp only[Option.getD_some,Option.isSome_some]at r1 r2⊢;obtain⟨P1,k1,rfl⟩:=Kd.ai r1;obtain⟨P2,k2,rfl⟩:=Kd.ai r2;have x0:=(hb.block w.heap.size (by simp)).trans (dh w _);have hsz:w.heap.size<w2.heap.size:=(by have:=hb.size;simp at this;omega);have Hi:=hd x0;have iK:=hd r1;have ia:=hd r2;have bw:=hd hb;clear r1 r2 hb x0))
 have hB:Below w.heap.size w (w2.alloc (.cells #[.slice P1 t.f0.length k1,.slice P2 t.f1.length k2] 40)):=af (aA (af (ay _ _) _) (by simp) bw.o) _;have z6:=dh w2 (.cells #[.slice P1 t.f0.length k1,.slice P2 t.f1.length k2] 40);have z0:=bh Hi.o (.cells #[.slice P1 t.f0.length k1,.slice P2 t.f1.length k2] 40);have q1:cO (w2.alloc (.cells #[.slice P1 t.f0.length k1,.slice P2 t.f1.length k2] 40)) w.heap.size (.slice P1 t.f0.length k1) t.f0:=Kd.aZ (bO iK.o (by simp)) _;have q2:cO (w2.alloc (.cells #[.slice P1 t.f0.length k1,.slice P2 t.f1.length k2] 40)) w.heap.size (.slice P2 t.f1.length k2) t.f1:=Kd.aZ (bO ia.o (by simp)) _;have Hh:(w2.alloc (.cells #[.slice P1 t.f0.length k1,.slice P2 t.f1.length k2] 40)).heap.size=w2.heap.size+1:=by simp
 generalize w2.alloc (.cells #[.slice P1 t.f0.length k1,.slice P2 t.f1.length k2] 40)=W at hB z6 z0 q1 q2 Hh⊢;obtain⟨y0,y1,y2,y3,y4,y5,y6,y7⟩:=c8 z0;have y8:=(aa z6 0).trans rfl;have y9:=(aa z6 1).trans rfl;have cE:=hd hB;have Qd:=hd q1;have qf:=hd q2;clear hB z6 z0 q1 q2;refine st 13 (fun w'=>w'.cell? ⟨w.heap.size,0,none⟩=some (.slice A0 M.f0.length c0)/\w'.cell? ⟨w.heap.size,1,none⟩=some (.slice A1 M.f1.length c1)/\w'.cell? ⟨w.heap.size,2,none⟩=some (.slice A2 M.f2.length c2)/\w'.cell? ⟨w.heap.size,3,none⟩=some (.slice A3 M.f3.length c3)/\w'.cell? ⟨w.heap.size,4,none⟩=some (.slice A4 M.f4.length c4)/\w'.cell? ⟨w.heap.size,5,none⟩=some (.slice A5 M.f5.length c5)/\w'.cell? ⟨w.heap.size,6,none⟩=some (.slice A6 M.f6.length c6)/\w'.cell? ⟨w.heap.size,7,none⟩=some (.slice A7 M.f7.length c7)/\w'.cell? ⟨w2.heap.size,0,none⟩=some (.slice P1 t.f0.length k1)/\w'.cell? ⟨w2.heap.size,1,none⟩=some (.slice P2 t.f1.length k2)) [] ⟨y0,y1,y2,y3,y4,y5,y6,y7,y8,y9⟩ (fun ag=>?_);refine tk 0 19 ag ?_;refine tk 1 20 ag ?_;refine pu 2 21 ?_;refine tk 4 23 ag ?_;refine pu 5 24 ?_;refine tk 6 25 ag ?_;refine pu2 7 26 8 27 ?_;refine tw 3 9 (some 22) (some 28) (fun K hK=>?_) (fun K hK=>?_)
 ·skip
  refine om func85 (by kernel_rfl) rfl #[.agg #[.slice A0 M.f0.length c0,.slice A1 M.f1.length c1,.slice A2 M.f2.length c2,.slice A3 M.f3.length c3,.slice A4 M.f4.length c4,.slice A5 M.f5.length c5,.slice A6 M.f6.length c6,.slice A7 M.f7.length c7],.int .i64 ((M.f1.length:Int)+j)] (by rfl) rfl rfl (by simp only[List.map_toArray,List.map_cons,List.map_nil];rfl) ?_;refine(HLOC.o W.drew (aX cE.o)).mono ?_;rintro e w4⟨v4,rfl,r4,hb4⟩;obtain⟨P4,k4,rfl⟩:=Kd.ai r4;have Wq:=hd r4;have bP:=hd hb4;refine⟨_,rfl,?_⟩;refine hK.o _ _ (by obtain⟨s0,s1,s2,s3,s4,s5,s6,s7,s8,s9⟩:=ag;exact⟨(bP.o.cell (aR _ _ s0)).trans s0,(bP.o.cell (aR _ _ s1)).trans s1,(bP.o.cell (aR _ _ s2)).trans s2,(bP.o.cell (aR _ _ s3)).trans s3,(bP.o.cell (aR _ _ s4)).trans s4,(bP.o.cell (aR _ _ s5)).trans s5,(bP.o.cell (aR _ _ s6)).trans s6,(bP.o.cell (aR _ _ s7)).trans s7,(bP.o.cell (aR _ _ s8)).trans s8,(bP.o.cell (aR _ _ s9)).trans s9⟩) (fun ag=>?_);clear hK K;refine nm ?_;refine on 9 (some 28) (fun K hK=>?_);rw[if_pos (by rfl)]
  go_simp
  refine hK.o _ _ (by obtain⟨s0,s1,s2,s3,s4,s5,s6,s7,s8,s9⟩:=ag;exact⟨ak s0,ak s1,ak s2,ak s3,ak s4,ak s5,ak s6,ak s7,ak s8,ak s9⟩) (fun ag=>?_);clear hK K;refine pu 10 29 ?_;refine on 11 (some 30) (fun K hK=>?_);rw[if_pos (by rfl)]
  go_simp
  refine hK.o _ _ (by obtain⟨s0,s1,s2,s3,s4,s5,s6,s7,s8,s9⟩:=ag;exact⟨ak s0,ak s1,ak s2,ak s3,ak s4,ak s5,ak s6,ak s7,ak s8,ak s9⟩) (fun ag=>?_);clear hK K;refine pu 12 4 ?_;refine dn ?_
  go_wp2_with fail
  go_ret;have hb:=bP.o;have hs:=cE.o.size;have b4:Below w.heap.size w w4:=aA (aX cE.o) (by simpa using cE.o.size) bP.o;have q4:cO w4 w.heap.size (.slice P4 nl.length k4) nl:=bO Wq.o (by simpa using cE.o.size);have q1:cO w4 w.heap.size (.slice P1 t.f0.length k1) t.f0:=Kd.cM (Kd.fu Qd.o) bP.o;have q2:cO w4 w.heap.size (.slice P2 t.f1.length k2) t.f1:=Kd.cM (Kd.fu qf.o) bP.o;have hf:=zu w4 w.heap.size (fun _=>True) b4.size ⟨2,⟨[],t.f1⟩,0,false⟩ (.slice none 0 0) (.slice P2 t.f1.length k2) (Kd.fS _ _ _ _ _) q2 trivial;have ach:(w4.alloc (.cells #[.int .i64 2,.slice none 0 0,.slice P2 t.f1.length k2,.int .i64 0,.bool false] 113)).heap.size=w4.heap.size+1:=by simp
  have hc:=BQ (E:=⟨M,nl,t⟩) (vL:= .slice P4 nl.length k4) (v1:= .slice P1 t.f0.length k1) (v2:= .slice P2 t.f1.length k2) (X:=w4.alloc (.cells #[.int .i64 2,.slice none 0 0,.slice P2 t.f1.length k2,.int .i64 0,.bool false] 113)) HK.o rfl (af b4 _) (Kd.aZ q4 _) (Kd.aZ q1 _) (Kd.aZ q2 _) hf (fun k hk=>by
   rcases hk with h|h|h
   ·have:=Kd.gY q4 k h.symm;omega
   ·have:=Kd.gY q1 k h.symm;omega
   ·have:=Kd.gY q2 k h.symm;omega)
  rw[ach]at hc;exact hc
 ·skip
  rw[if_pos (by rfl)]
  go_simp
  refine hK.o _ _ (by obtain⟨s0,s1,s2,s3,s4,s5,s6,s7,s8,s9⟩:=ag;exact⟨ak s0,ak s1,ak s2,ak s3,ak s4,ak s5,ak s6,ak s7,ak s8,ak s9⟩) (fun ag=>?_);clear hK K;refine on 3 (some 22) (fun K hK=>?_);refine om func85 (by kernel_rfl) rfl #[.agg #[.slice A0 M.f0.length c0,.slice A1 M.f1.length c1,.slice A2 M.f2.length c2,.slice A3 M.f3.length c3,.slice A4 M.f4.length c4,.slice A5 M.f5.length c5,.slice A6 M.f6.length c6,.slice A7 M.f7.length c7],.int .i64 ((M.f1.length:Int)+j)] (by rfl) rfl rfl (by simp only[List.map_toArray,List.map_cons,List.map_nil];rfl) ?_;refine(HLOC.o (W.drew.alloc (.cells #[.int .i64 2,.slice none 0 0,.slice P2 t.f1.length k2,.int .i64 0,.bool false] 113)) (af (aX cE.o) _)).mono ?_;rintro e w4⟨v4,rfl,r4,hb4⟩;obtain⟨P4,k4,rfl⟩:=Kd.ai r4;have Wq:=hd r4;have bP:=hd hb4;refine⟨_,rfl,?_⟩;refine hK.o _ _ (by obtain⟨s0,s1,s2,s3,s4,s5,s6,s7,s8,s9⟩:=ag;exact⟨(bP.o.cell (aR _ _ s0)).trans s0,(bP.o.cell (aR _ _ s1)).trans s1,(bP.o.cell (aR _ _ s2)).trans s2,(bP.o.cell (aR _ _ s3)).trans s3,(bP.o.cell (aR _ _ s4)).trans s4,(bP.o.cell (aR _ _ s5)).trans s5,(bP.o.cell (aR _ _ s6)).trans s6,(bP.o.cell (aR _ _ s7)).trans s7,(bP.o.cell (aR _ _ s8)).trans s8,(bP.o.cell (aR _ _ s9)).trans s9⟩) (fun ag=>?_);clear hK K;refine nm ?_;refine pu 10 29 ?_;refine on 11 (some 30) (fun K hK=>?_);rw[if_pos (by rfl)]
  go_simp
  refine hK.o _ _ (by obtain⟨s0,s1,s2,s3,s4,s5,s6,s7,s8,s9⟩:=ag;exact⟨ak s0,ak s1,ak s2,ak s3,ak s4,ak s5,ak s6,ak s7,ak s8,ak s9⟩) (fun ag=>?_);clear hK K;refine pu 12 4 ?_;refine dn ?_
  go_wp2_with fail
  go_ret;have hb:=bP.o;have hs:=cE.o.size;have b4:Below w.heap.size w w4:=aA (af (aX cE.o) (.cells #[.int .i64 2,.slice none 0 0,.slice P2 t.f1.length k2,.int .i64 0,.bool false] 113)) (by simp;omega) bP.o;have q4':cO w4 (W.heap.size+1) (.slice P4 nl.length k4) nl:=by have:=Wq.o;simpa using this
  have q4:cO w4 w.heap.size (.slice P4 nl.length k4) nl:=bO q4' (by omega);have q1':cO W w.heap.size (.slice P1 t.f0.length k1) t.f0:=Qd.o;have q2':cO W w.heap.size (.slice P2 t.f1.length k2) t.f1:=qf.o;have q1:cO w4 w.heap.size (.slice P1 t.f0.length k1) t.f0:=Kd.cM (Kd.aZ (Kd.fu q1') (.cells #[.int .i64 2,.slice none 0 0,.slice P2 t.f1.length k2,.int .i64 0,.bool false] 113)) bP.o;have q2:cO w4 w.heap.size (.slice P2 t.f1.length k2) t.f1:=Kd.cM (Kd.aZ (Kd.fu q2') (.cells #[.int .i64 2,.slice none 0 0,.slice P2 t.f1.length k2,.int .i64 0,.bool false] 113)) bP.o;have hf:=Kd.cM (zu W.drew w.heap.size (fun _=>True) (by simpa using cE.o.size) ⟨2,⟨[],t.f1⟩,0,false⟩ (.slice none 0 0) (.slice P2 t.f1.length k2) (Kd.fS _ _ _ _ _) (Kd.fu q2') trivial) bP.o;rw[show W.drew.heap.size=w2.heap.size+1 from Hh]at hf
  exact BQ (E:=⟨M,nl,t⟩) (vL:= .slice P4 nl.length k4) (v1:= .slice P1 t.f0.length k1) (v2:= .slice P2 t.f1.length k2) (X:=w4) HK.o rfl b4 q4 q1 q2 hf (fun k hk=>by
   rcases hk with h|h|h
   ·have:=Kd.iW q4' k h.symm;omega
   ·have:=Kd.gY q1' k h.symm;omega
   ·have:=Kd.gY q2' k h.symm;omega)
theorem kD{w w':World}{base g:Nat}{D:Nat->Prop}{fx:List Value}{s:Sp.St}{vT vF dI eG:Value}(h:aJ w base g D fx s vT vF)(m:Mv g w w' vT vF dI eG)(hb:base<=w.heap.size):Below base w w':=
 ⟨m.os,m.tape,m.output,m.size,fun k hk=>m.block k (by omega) (by have:=h.2.2.1;omega) (fun e=>by have:=Kd.iW h.2.2.2.2.1 k e.symm;omega) (fun e=>by have:=Kd.iW h.2.2.2.2.2.1 k e.symm;omega)⟩
theorem dc{w:World}{base:Nat}{E:Sp.Env}{cs:List Value}{vL v1 v2:Value}(h:dO w base E cs vL v1 v2):base<=w.heap.size:=by
 obtain⟨w0,rfl,-,hb,-⟩:=h;exact hb.size
theorem nX{w w':World}{base g:Nat}{E:Sp.Env}{cs fx:List Value}{vL v1 v2:Value}{s:Sp.St}{vT vF dI eG:Value}(h:aJ w base g (di vL v1 v2) fx s vT vF)(m:Mv g w w' vT vF dI eG)(hE:dO w base E cs vL v1 v2):dO w' base E cs vL v1 v2:=by
 have hk:Td (di vL v1 v2) w w':=m.XN h.2.2.2.1 (fun k e hd9=>((h.2.2.2.2.1).1 k e).2.2 hd9) (fun k e hd9=>h.2.2.2.2.2.2.1 k e hd9) h.2.2.2.2.2.2.2;have hb:=kD h m (dc hE);obtain⟨w0,rfl,hM,hb0,r1,r2,r3⟩:=hE;exact⟨w0,rfl,hM,⟨hb.os.trans hb0.os,hb.tape.trans hb0.tape,hb.output.trans hb0.output,cG hb0.size hb.size,fun k hk=>(hb.block k hk).trans (hb0.block k hk)⟩,Kd.jN r1 hk.block,Kd.jN r2 hk.block,Kd.jN r3 hk.block⟩
theorem aC{w w':World}{base:Nat}{E:Sp.Env}{cs:List Value}{vL v1 v2:Value}(hE:dO w base E cs vL v1 v2)(hb:Below w.heap.size w w'):dO w' base E cs vL v1 v2:=by
 obtain⟨w0,rfl,hM,hb0,r1,r2,r3⟩:=hE;exact⟨w0,rfl,hM,aA hb0 hb0.size hb,Kd.cM r1 hb,Kd.cM r2 hb,Kd.cM r3 hb⟩
theorem fq{w:World}{base:Nat}{E:Sp.Env}{cs:List Value}{vL v1 v2:Value}(hE:dO w base E cs vL v1 v2):bZ.K w E.M cs:=by
 obtain⟨w0,rfl,hM,hb0,-⟩:=hE;exact Kd.dJ bZ hb0 hM
theorem gV{w:World}{base g:Nat}{D:Nat->Prop}{A0 A1 A2 A3 A4 A5 A6 A7:Option Addr}{n0 c0 n1 c1 n2 c2 n3 c3 n4 c4 n5 c5 n6 c6 n7 c7:Nat}{vL v1 v2:Value}{s:Sp.St}{vT vF:Value}(h:aJ w base g D ([.slice A0 n0 c0,.slice A1 n1 c1,.slice A2 n2 c2,.slice A3 n3 c3,.slice A4 n4 c4,.slice A5 n5 c5,.slice A6 n6 c6,.slice A7 n7 c7]++ [vL,v1,v2]) s vT vF):w.cell? ⟨g,0,none⟩=some (.slice A0 n0 c0)/\w.cell? ⟨g,1,none⟩=some (.slice A1 n1 c1)/\w.cell? ⟨g,2,none⟩=some (.slice A2 n2 c2)/\w.cell? ⟨g,3,none⟩=some (.slice A3 n3 c3)/\w.cell? ⟨g,4,none⟩=some (.slice A4 n4 c4)/\w.cell? ⟨g,5,none⟩=some (.slice A5 n5 c5)/\w.cell? ⟨g,6,none⟩=some (.slice A6 n6 c6)/\w.cell? ⟨g,7,none⟩=some (.slice A7 n7 c7)/\w.cell? ⟨g,8,none⟩=some vL:=
 ⟨(aa h.1 0).trans rfl,(aa h.1 1).trans rfl,(aa h.1 2).trans rfl,(aa h.1 3).trans rfl,(aa h.1 4).trans rfl,(aa h.1 5).trans rfl,(aa h.1 6).trans rfl,(aa h.1 7).trans rfl,(aa h.1 8).trans rfl⟩
theorem fH{op:Int}{b:Bool}(h:Sp.eD op=b):Hid (∀w,Calls prog 88 #[.int .i64 op] w (fun e w'=>e= .returned (.tuple #[.int .i64 (Sp.mW op),.int .i64 (Sp.jX op),.bool (Sp.tN op),.bool b])/\w=w')):=by
 subst h;exact hd (jh op)
theorem fI{op:Int}{b:Bool}(h:Sp.opens op=b):Hid (∀w,Calls prog 87 #[.int .i64 op] w (fun e w'=>e= .returned (.bool b)/\w=w')):=by
 subst h;exact hd (gK op)
theorem Hs(w:World)(base g:Nat)(E:Sp.Env)(cs:List Value)(vL v1 v2:Value)(s:Sp.St)(vT vF:Value)(h:aJ w base g (di vL v1 v2) (cs++ [vL,v1,v2]) s vT vF)(hE:dO w base E cs vL v1 v2)(hI:Sp.cq s)(a b n:Int)(A:Option Addr)(l c:Nat)(op:Int)(hA:Sp.eD op=false)(hO:Sp.opens op=false)(zq:(op==12)=false)(DY:(op==13)=false)(Fa:(op==14)=false)(Gn:(op==16)=false)(Hr:(op==18)=false)(b32:(op==32)=false)(KI:(op==33)=false)(L9:(op==34)=false)(NT:(op==35)=false)(Qe:(op==36)=false)(Ju:(op==63)=false)(L8:(op==64)=false)(q8:(op==64523)=false)(pE:(op==64520)=false)(Ht:(op==64521)=false)(zn:(op==64522)=false):Calls prog 46 #[.pointer (some ⟨g,0,none⟩),bX op a b n (.slice A l c)] w (aB (true) w):=by
 have hK:=fq hE;obtain⟨A0,c0,A1,c1,A2,c2,A3,c3,A4,c4,A5,c5,A6,c6,A7,c7,rfl,-⟩:=aD hK;have hL:=hE.choose_spec.2.2.2.1;obtain⟨PL,kL,rfl⟩:=Kd.ai hL;obtain⟨PF,kF,rfl⟩:=Kd.ai h.2.2.2.2.2.1;obtain⟨nC,-,-⟩:=aV h;obtain⟨y0,y1,y2,y3,y4,y5,y6,y7,y8⟩:=gV h;have fJ:=(aa h.1 12).trans (dN h.2.1 _ _ _);have HA:=fH hA;have HO:=fI hO;have HK:=hd hK;clear h hE hI hK hL hA hO
 go_enter func46,ntmps46
 go_wp2_with (first|((go_at_call 88);(with_reducible refine(HA.o _).mono ?_);rintro e w'⟨rfl,rfl⟩)|((go_at_call 87);(with_reducible refine(HO.o _).mono ?_);rintro e w'⟨rfl,rfl⟩)|((go_at_call 43);(refine(bq _ _ _).mono ?_);rintro e w'⟨rfl,rfl⟩))
 go_ret;exact⟨rfl,(by repeat (first|exact ay _ _|exact pY.o|refine af ?_ _|refine aq ?_ _))⟩
theorem KJ(w:World)(base g:Nat)(E:Sp.Env)(cs:List Value)(vL v1 v2:Value)(s:Sp.St)(vT vF:Value)(h:aJ w base g (di vL v1 v2) (cs++ [vL,v1,v2]) s vT vF)(hE:dO w base E cs vL v1 v2)(hI:Sp.cq s)(a b n:Int)(A:Option Addr)(l c:Nat)(op:Int)(hA:Sp.eD op=true)(hO:Sp.opens op=false):Calls prog 46 #[.pointer (some ⟨g,0,none⟩),bX op a b n (.slice A l c)] w (aB (Sp.within a 0 ((E.M.f3.length:Int)-1)) w):=by
 have hK:=fq hE;obtain⟨A0,c0,A1,c1,A2,c2,A3,c3,A4,c4,A5,c5,A6,c6,A7,c7,rfl,-⟩:=aD hK;have hL:=hE.choose_spec.2.2.2.1;obtain⟨PL,kL,rfl⟩:=Kd.ai hL;obtain⟨PF,kF,rfl⟩:=Kd.ai h.2.2.2.2.2.1;obtain⟨nC,-,-⟩:=aV h;obtain⟨y0,y1,y2,y3,y4,y5,y6,y7,y8⟩:=gV h;have fJ:=(aa h.1 12).trans (dN h.2.1 _ _ _);have HA:=fH hA;have HO:=fI hO;have HK:=hd hK;clear h hE hI hK hL hA hO
 go_enter func46,ntmps46
 go_wp2_with (first|((go_at_call 88);(with_reducible refine(HA.o _).mono ?_);rintro e w'⟨rfl,rfl⟩)|((go_at_call 87);(with_reducible refine(HO.o _).mono ?_);rintro e w'⟨rfl,rfl⟩)|((go_at_call 43);(refine(bq _ _ _).mono ?_);rintro e w'⟨rfl,rfl⟩))
 go_ret;exact⟨rfl,(by repeat (first|exact ay _ _|exact pY.o|refine af ?_ _|refine aq ?_ _))⟩
theorem NV(w:World)(base g:Nat)(E:Sp.Env)(cs:List Value)(vL v1 v2:Value)(s:Sp.St)(vT vF:Value)(h:aJ w base g (di vL v1 v2) (cs++ [vL,v1,v2]) s vT vF)(hE:dO w base E cs vL v1 v2)(hI:Sp.cq s)(a b n:Int)(A:Option Addr)(l c:Nat)(op:Int)(hA:Sp.eD op=false)(hO:Sp.opens op=false)(zq:(op==12)=false)(DY:(op==13)=false)(Fa:(op==14)=false)(Gn:(op==16)=false)(Hr:(op==18)=false)(b32:(op==32)=false)(KI:(op==33)=false)(L9:(op==34)=false)(NT:(op==35)=true):Calls prog 46 #[.pointer (some ⟨g,0,none⟩),bX op a b n (.slice A l c)] w (aB (Sp.within a 0 ((E.M.f4.length:Int)-1)) w):=by
 have hK:=fq hE;obtain⟨A0,c0,A1,c1,A2,c2,A3,c3,A4,c4,A5,c5,A6,c6,A7,c7,rfl,-⟩:=aD hK;have hL:=hE.choose_spec.2.2.2.1;obtain⟨PL,kL,rfl⟩:=Kd.ai hL;obtain⟨PF,kF,rfl⟩:=Kd.ai h.2.2.2.2.2.1;obtain⟨nC,-,-⟩:=aV h;obtain⟨y0,y1,y2,y3,y4,y5,y6,y7,y8⟩:=gV h;have fJ:=(aa h.1 12).trans (dN h.2.1 _ _ _);have HA:=fH hA;have HO:=fI hO;have HK:=hd hK;clear h hE hI hK hL hA hO
 go_enter func46,ntmps46
 go_wp2_with (first|((go_at_call 88);(with_reducible refine(HA.o _).mono ?_);rintro e w'⟨rfl,rfl⟩)|((go_at_call 87);(with_reducible refine(HO.o _).mono ?_);rintro e w'⟨rfl,rfl⟩)|((go_at_call 43);(refine(bq _ _ _).mono ?_);rintro e w'⟨rfl,rfl⟩))
 go_ret;exact⟨rfl,(by repeat (first|exact ay _ _|exact pY.o|refine af ?_ _|refine aq ?_ _))⟩
theorem NW(w:World)(base g:Nat)(E:Sp.Env)(cs:List Value)(vL v1 v2:Value)(s:Sp.St)(vT vF:Value)(h:aJ w base g (di vL v1 v2) (cs++ [vL,v1,v2]) s vT vF)(hE:dO w base E cs vL v1 v2)(hI:Sp.cq s)(a b n:Int)(A:Option Addr)(l c:Nat)(op:Int)(hA:Sp.eD op=false)(hO:Sp.opens op=false)(zq:(op==12)=false)(DY:(op==13)=false)(Fa:(op==14)=false)(Gn:(op==16)=false)(Hr:(op==18)=false)(b32:(op==32)=false)(KI:(op==33)=false)(L9:(op==34)=false)(NT:(op==35)=false)(Qe:(op==36)=true):Calls prog 46 #[.pointer (some ⟨g,0,none⟩),bX op a b n (.slice A l c)] w (aB (Sp.within a 0 ((E.M.f4.length:Int)-1)) w):=by
 have hK:=fq hE;obtain⟨A0,c0,A1,c1,A2,c2,A3,c3,A4,c4,A5,c5,A6,c6,A7,c7,rfl,-⟩:=aD hK;have hL:=hE.choose_spec.2.2.2.1;obtain⟨PL,kL,rfl⟩:=Kd.ai hL;obtain⟨PF,kF,rfl⟩:=Kd.ai h.2.2.2.2.2.1;obtain⟨nC,-,-⟩:=aV h;obtain⟨y0,y1,y2,y3,y4,y5,y6,y7,y8⟩:=gV h;have fJ:=(aa h.1 12).trans (dN h.2.1 _ _ _);have HA:=fH hA;have HO:=fI hO;have HK:=hd hK;clear h hE hI hK hL hA hO
 go_enter func46,ntmps46
 go_wp2_with (first|((go_at_call 88);(with_reducible refine(HA.o _).mono ?_);rintro e w'⟨rfl,rfl⟩)|((go_at_call 87);(with_reducible refine(HO.o _).mono ?_);rintro e w'⟨rfl,rfl⟩)|((go_at_call 43);(refine(bq _ _ _).mono ?_);rintro e w'⟨rfl,rfl⟩))
 go_ret;exact⟨rfl,(by repeat (first|exact ay _ _|exact pY.o|refine af ?_ _|refine aq ?_ _))⟩
theorem NY(w:World)(base g:Nat)(E:Sp.Env)(cs:List Value)(vL v1 v2:Value)(s:Sp.St)(vT vF:Value)(h:aJ w base g (di vL v1 v2) (cs++ [vL,v1,v2]) s vT vF)(hE:dO w base E cs vL v1 v2)(hI:Sp.cq s)(a b n:Int)(A:Option Addr)(l c:Nat)(op:Int)(hA:Sp.eD op=false)(hO:Sp.opens op=false)(zq:(op==12)=false)(DY:(op==13)=false)(Fa:(op==14)=false)(Gn:(op==16)=false)(Hr:(op==18)=false)(b32:(op==32)=false)(KI:(op==33)=false)(L9:(op==34)=false)(NT:(op==35)=false)(Qe:(op==36)=false)(Ju:(op==63)=true):Calls prog 46 #[.pointer (some ⟨g,0,none⟩),bX op a b n (.slice A l c)] w (aB (Sp.within a 0 ((E.M.f3.length:Int)-1)) w):=by
 have hK:=fq hE;obtain⟨A0,c0,A1,c1,A2,c2,A3,c3,A4,c4,A5,c5,A6,c6,A7,c7,rfl,-⟩:=aD hK;have hL:=hE.choose_spec.2.2.2.1;obtain⟨PL,kL,rfl⟩:=Kd.ai hL;obtain⟨PF,kF,rfl⟩:=Kd.ai h.2.2.2.2.2.1;obtain⟨nC,-,-⟩:=aV h;obtain⟨y0,y1,y2,y3,y4,y5,y6,y7,y8⟩:=gV h;have fJ:=(aa h.1 12).trans (dN h.2.1 _ _ _);have HA:=fH hA;have HO:=fI hO;have HK:=hd hK;clear h hE hI hK hL hA hO
 go_enter func46,ntmps46
 go_wp2_with (first|((go_at_call 88);(with_reducible refine(HA.o _).mono ?_);rintro e w'⟨rfl,rfl⟩)|((go_at_call 87);(with_reducible refine(HO.o _).mono ?_);rintro e w'⟨rfl,rfl⟩)|((go_at_call 43);(refine(bq _ _ _).mono ?_);rintro e w'⟨rfl,rfl⟩))
 go_ret;exact⟨rfl,(by repeat (first|exact ay _ _|exact pY.o|refine af ?_ _|refine aq ?_ _))⟩
theorem NZ(w:World)(base g:Nat)(E:Sp.Env)(cs:List Value)(vL v1 v2:Value)(s:Sp.St)(vT vF:Value)(h:aJ w base g (di vL v1 v2) (cs++ [vL,v1,v2]) s vT vF)(hE:dO w base E cs vL v1 v2)(hI:Sp.cq s)(a b n:Int)(A:Option Addr)(l c:Nat)(op:Int)(hA:Sp.eD op=false)(hO:Sp.opens op=false)(zq:(op==12)=false)(DY:(op==13)=false)(Fa:(op==14)=false)(Gn:(op==16)=false)(Hr:(op==18)=false)(b32:(op==32)=false)(KI:(op==33)=false)(L9:(op==34)=false)(NT:(op==35)=false)(Qe:(op==36)=false)(Ju:(op==63)=false)(L8:(op==64)=true):Calls prog 46 #[.pointer (some ⟨g,0,none⟩),bX op a b n (.slice A l c)] w (aB (Sp.within a 0 ((E.M.f3.length:Int)-1)) w):=by
 have hK:=fq hE;obtain⟨A0,c0,A1,c1,A2,c2,A3,c3,A4,c4,A5,c5,A6,c6,A7,c7,rfl,-⟩:=aD hK;have hL:=hE.choose_spec.2.2.2.1;obtain⟨PL,kL,rfl⟩:=Kd.ai hL;obtain⟨PF,kF,rfl⟩:=Kd.ai h.2.2.2.2.2.1;obtain⟨nC,-,-⟩:=aV h;obtain⟨y0,y1,y2,y3,y4,y5,y6,y7,y8⟩:=gV h;have fJ:=(aa h.1 12).trans (dN h.2.1 _ _ _);have HA:=fH hA;have HO:=fI hO;have HK:=hd hK;clear h hE hI hK hL hA hO
 go_enter func46,ntmps46
 go_wp2_with (first|((go_at_call 88);(with_reducible refine(HA.o _).mono ?_);rintro e w'⟨rfl,rfl⟩)|((go_at_call 87);(with_reducible refine(HO.o _).mono ?_);rintro e w'⟨rfl,rfl⟩)|((go_at_call 43);(refine(bq _ _ _).mono ?_);rintro e w'⟨rfl,rfl⟩))
 go_ret;exact⟨rfl,(by repeat (first|exact ay _ _|exact pY.o|refine af ?_ _|refine aq ?_ _))⟩
theorem Fc(w:World)(base g:Nat)(E:Sp.Env)(cs:List Value)(vL v1 v2:Value)(s:Sp.St)(vT vF:Value)(h:aJ w base g (di vL v1 v2) (cs++ [vL,v1,v2]) s vT vF)(hE:dO w base E cs vL v1 v2)(hI:Sp.cq s)(a b n:Int)(A:Option Addr)(l c:Nat)(op:Int)(hA:Sp.eD op=false)(hO:Sp.opens op=false)(zq:(op==12)=false)(DY:(op==13)=false)(Fa:(op==14)=false)(Gn:(op==16)=false)(Hr:(op==18)=false)(b32:(op==32)=false)(KI:(op==33)=false)(L9:(op==34)=false)(NT:(op==35)=false)(Qe:(op==36)=false)(Ju:(op==63)=false)(L8:(op==64)=false)(q8:(op==64523)=true):Calls prog 46 #[.pointer (some ⟨g,0,none⟩),bX op a b n (.slice A l c)] w (aB (Sp.within a 0 ((E.M.f3.length:Int)-1)) w):=by
 have hK:=fq hE;obtain⟨A0,c0,A1,c1,A2,c2,A3,c3,A4,c4,A5,c5,A6,c6,A7,c7,rfl,-⟩:=aD hK;have hL:=hE.choose_spec.2.2.2.1;obtain⟨PL,kL,rfl⟩:=Kd.ai hL;obtain⟨PF,kF,rfl⟩:=Kd.ai h.2.2.2.2.2.1;obtain⟨nC,-,-⟩:=aV h;obtain⟨y0,y1,y2,y3,y4,y5,y6,y7,y8⟩:=gV h;have fJ:=(aa h.1 12).trans (dN h.2.1 _ _ _);have HA:=fH hA;have HO:=fI hO;have HK:=hd hK;clear h hE hI hK hL hA hO
 go_enter func46,ntmps46
 go_wp2_with (first|((go_at_call 88);(with_reducible refine(HA.o _).mono ?_);rintro e w'⟨rfl,rfl⟩)|((go_at_call 87);(with_reducible refine(HO.o _).mono ?_);rintro e w'⟨rfl,rfl⟩)|((go_at_call 43);(refine(bq _ _ _).mono ?_);rintro e w'⟨rfl,rfl⟩))
 go_ret;exact⟨rfl,(by repeat (first|exact ay _ _|exact pY.o|refine af ?_ _|refine aq ?_ _))⟩
theorem Fe(w:World)(base g:Nat)(E:Sp.Env)(cs:List Value)(vL v1 v2:Value)(s:Sp.St)(vT vF:Value)(h:aJ w base g (di vL v1 v2) (cs++ [vL,v1,v2]) s vT vF)(hE:dO w base E cs vL v1 v2)(hI:Sp.cq s)(a b n:Int)(A:Option Addr)(l c:Nat)(op:Int)(hA:Sp.eD op=false)(hO:Sp.opens op=false)(zq:(op==12)=false)(DY:(op==13)=false)(Fa:(op==14)=false)(Gn:(op==16)=false)(Hr:(op==18)=false)(b32:(op==32)=false)(KI:(op==33)=false)(L9:(op==34)=false)(NT:(op==35)=false)(Qe:(op==36)=false)(Ju:(op==63)=false)(L8:(op==64)=false)(q8:(op==64523)=false)(pE:(op==64520)=false)(Ht:(op==64521)=true):Calls prog 46 #[.pointer (some ⟨g,0,none⟩),bX op a b n (.slice A l c)] w (aB (Sp.within a 0 ((E.M.f6.length:Int)-1)) w):=by
 have hK:=fq hE;obtain⟨A0,c0,A1,c1,A2,c2,A3,c3,A4,c4,A5,c5,A6,c6,A7,c7,rfl,-⟩:=aD hK;have hL:=hE.choose_spec.2.2.2.1;obtain⟨PL,kL,rfl⟩:=Kd.ai hL;obtain⟨PF,kF,rfl⟩:=Kd.ai h.2.2.2.2.2.1;obtain⟨nC,-,-⟩:=aV h;obtain⟨y0,y1,y2,y3,y4,y5,y6,y7,y8⟩:=gV h;have fJ:=(aa h.1 12).trans (dN h.2.1 _ _ _);have HA:=fH hA;have HO:=fI hO;have HK:=hd hK;clear h hE hI hK hL hA hO
 go_enter func46,ntmps46
 go_wp2_with (first|((go_at_call 88);(with_reducible refine(HA.o _).mono ?_);rintro e w'⟨rfl,rfl⟩)|((go_at_call 87);(with_reducible refine(HO.o _).mono ?_);rintro e w'⟨rfl,rfl⟩)|((go_at_call 43);(refine(bq _ _ _).mono ?_);rintro e w'⟨rfl,rfl⟩))
 go_ret;exact⟨rfl,(by repeat (first|exact ay _ _|exact pY.o|refine af ?_ _|refine aq ?_ _))⟩
theorem vJ(w:World)(base g:Nat)(E:Sp.Env)(cs:List Value)(vL v1 v2:Value)(s:Sp.St)(vT vF:Value)(h:aJ w base g (di vL v1 v2) (cs++ [vL,v1,v2]) s vT vF)(hE:dO w base E cs vL v1 v2)(hI:Sp.cq s)(a b n:Int)(A:Option Addr)(l c:Nat)(op:Int)(hA:Sp.eD op=false)(hO:Sp.opens op=false)(zq:(op==12)=false)(DY:(op==13)=false)(Fa:(op==14)=false)(Gn:(op==16)=false)(Hr:(op==18)=false)(b32:(op==32)=false)(KI:(op==33)=false)(L9:(op==34)=false)(NT:(op==35)=false)(Qe:(op==36)=false)(Ju:(op==63)=false)(L8:(op==64)=false)(q8:(op==64523)=false)(pE:(op==64520)=true)(wa:Sp.within a 0 ((E.M.f3.length:Int)-1)=true):Calls prog 46 #[.pointer (some ⟨g,0,none⟩),bX op a b n (.slice A l c)] w (aB (Sp.within b 0 ((E.M.f6.length:Int)-1)) w):=by
 have hK:=fq hE;obtain⟨A0,c0,A1,c1,A2,c2,A3,c3,A4,c4,A5,c5,A6,c6,A7,c7,rfl,-⟩:=aD hK;have hL:=hE.choose_spec.2.2.2.1;obtain⟨PL,kL,rfl⟩:=Kd.ai hL;obtain⟨PF,kF,rfl⟩:=Kd.ai h.2.2.2.2.2.1;obtain⟨nC,-,-⟩:=aV h;obtain⟨y0,y1,y2,y3,y4,y5,y6,y7,y8⟩:=gV h;have fJ:=(aa h.1 12).trans (dN h.2.1 _ _ _);have HA:=fH hA;have HO:=fI hO;have HK:=hd hK;clear h hE hI hK hL hA hO
 go_enter func46,ntmps46
 go_wp2_with (first|((go_at_call 88);(with_reducible refine(HA.o _).mono ?_);rintro e w'⟨rfl,rfl⟩)|((go_at_call 87);(with_reducible refine(HO.o _).mono ?_);rintro e w'⟨rfl,rfl⟩)|((go_at_call 43);(refine(bq _ _ _).mono ?_);rintro e w'⟨rfl,rfl⟩))
 go_ret;exact⟨rfl,(by repeat (first|exact ay _ _|exact pY.o|refine af ?_ _|refine aq ?_ _))⟩
theorem uD(w:World)(base g:Nat)(E:Sp.Env)(cs:List Value)(vL v1 v2:Value)(s:Sp.St)(vT vF:Value)(h:aJ w base g (di vL v1 v2) (cs++ [vL,v1,v2]) s vT vF)(hE:dO w base E cs vL v1 v2)(hI:Sp.cq s)(a b n:Int)(A:Option Addr)(l c:Nat)(op:Int)(hA:Sp.eD op=false)(hO:Sp.opens op=false)(zq:(op==12)=false)(DY:(op==13)=false)(Fa:(op==14)=false)(Gn:(op==16)=false)(Hr:(op==18)=false)(b32:(op==32)=false)(KI:(op==33)=false)(L9:(op==34)=false)(NT:(op==35)=false)(Qe:(op==36)=false)(Ju:(op==63)=false)(L8:(op==64)=false)(q8:(op==64523)=false)(pE:(op==64520)=true)(wa:Sp.within a 0 ((E.M.f3.length:Int)-1)=false):Calls prog 46 #[.pointer (some ⟨g,0,none⟩),bX op a b n (.slice A l c)] w (aB (false) w):=by
 have hK:=fq hE;obtain⟨A0,c0,A1,c1,A2,c2,A3,c3,A4,c4,A5,c5,A6,c6,A7,c7,rfl,-⟩:=aD hK;have hL:=hE.choose_spec.2.2.2.1;obtain⟨PL,kL,rfl⟩:=Kd.ai hL;obtain⟨PF,kF,rfl⟩:=Kd.ai h.2.2.2.2.2.1;obtain⟨nC,-,-⟩:=aV h;obtain⟨y0,y1,y2,y3,y4,y5,y6,y7,y8⟩:=gV h;have fJ:=(aa h.1 12).trans (dN h.2.1 _ _ _);have HA:=fH hA;have HO:=fI hO;have HK:=hd hK;clear h hE hI hK hL hA hO
 go_enter func46,ntmps46
 go_wp2_with (first|((go_at_call 88);(with_reducible refine(HA.o _).mono ?_);rintro e w'⟨rfl,rfl⟩)|((go_at_call 87);(with_reducible refine(HO.o _).mono ?_);rintro e w'⟨rfl,rfl⟩)|((go_at_call 43);(refine(bq _ _ _).mono ?_);rintro e w'⟨rfl,rfl⟩))
 go_ret;exact⟨rfl,(by repeat (first|exact ay _ _|exact pY.o|refine af ?_ _|refine aq ?_ _))⟩
theorem vK(w:World)(base g:Nat)(E:Sp.Env)(cs:List Value)(vL v1 v2:Value)(s:Sp.St)(vT vF:Value)(h:aJ w base g (di vL v1 v2) (cs++ [vL,v1,v2]) s vT vF)(hE:dO w base E cs vL v1 v2)(hI:Sp.cq s)(a b n:Int)(A:Option Addr)(l c:Nat)(op:Int)(hA:Sp.eD op=false)(hO:Sp.opens op=false)(zq:(op==12)=false)(DY:(op==13)=false)(Fa:(op==14)=false)(Gn:(op==16)=false)(Hr:(op==18)=false)(b32:(op==32)=false)(KI:(op==33)=false)(L9:(op==34)=false)(NT:(op==35)=false)(Qe:(op==36)=false)(Ju:(op==63)=false)(L8:(op==64)=false)(q8:(op==64523)=false)(pE:(op==64520)=false)(Ht:(op==64521)=false)(zn:(op==64522)=true)(wa:Sp.within a 0 ((E.M.f3.length:Int)-1)=true):Calls prog 46 #[.pointer (some ⟨g,0,none⟩),bX op a b n (.slice A l c)] w (aB (Sp.within b 0 ((E.M.f3.length:Int)-1)) w):=by
 have hK:=fq hE;obtain⟨A0,c0,A1,c1,A2,c2,A3,c3,A4,c4,A5,c5,A6,c6,A7,c7,rfl,-⟩:=aD hK;have hL:=hE.choose_spec.2.2.2.1;obtain⟨PL,kL,rfl⟩:=Kd.ai hL;obtain⟨PF,kF,rfl⟩:=Kd.ai h.2.2.2.2.2.1;obtain⟨nC,-,-⟩:=aV h;obtain⟨y0,y1,y2,y3,y4,y5,y6,y7,y8⟩:=gV h;have fJ:=(aa h.1 12).trans (dN h.2.1 _ _ _);have HA:=fH hA;have HO:=fI hO;have HK:=hd hK;clear h hE hI hK hL hA hO
 go_enter func46,ntmps46
 go_wp2_with (first|((go_at_call 88);(with_reducible refine(HA.o _).mono ?_);rintro e w'⟨rfl,rfl⟩)|((go_at_call 87);(with_reducible refine(HO.o _).mono ?_);rintro e w'⟨rfl,rfl⟩)|((go_at_call 43);(refine(bq _ _ _).mono ?_);rintro e w'⟨rfl,rfl⟩))
 go_ret;exact⟨rfl,(by repeat (first|exact ay _ _|exact pY.o|refine af ?_ _|refine aq ?_ _))⟩
theorem uE(w:World)(base g:Nat)(E:Sp.Env)(cs:List Value)(vL v1 v2:Value)(s:Sp.St)(vT vF:Value)(h:aJ w base g (di vL v1 v2) (cs++ [vL,v1,v2]) s vT vF)(hE:dO w base E cs vL v1 v2)(hI:Sp.cq s)(a b n:Int)(A:Option Addr)(l c:Nat)(op:Int)(hA:Sp.eD op=false)(hO:Sp.opens op=false)(zq:(op==12)=false)(DY:(op==13)=false)(Fa:(op==14)=false)(Gn:(op==16)=false)(Hr:(op==18)=false)(b32:(op==32)=false)(KI:(op==33)=false)(L9:(op==34)=false)(NT:(op==35)=false)(Qe:(op==36)=false)(Ju:(op==63)=false)(L8:(op==64)=false)(q8:(op==64523)=false)(pE:(op==64520)=false)(Ht:(op==64521)=false)(zn:(op==64522)=true)(wa:Sp.within a 0 ((E.M.f3.length:Int)-1)=false):Calls prog 46 #[.pointer (some ⟨g,0,none⟩),bX op a b n (.slice A l c)] w (aB (false) w):=by
 have hK:=fq hE;obtain⟨A0,c0,A1,c1,A2,c2,A3,c3,A4,c4,A5,c5,A6,c6,A7,c7,rfl,-⟩:=aD hK;have hL:=hE.choose_spec.2.2.2.1;obtain⟨PL,kL,rfl⟩:=Kd.ai hL;obtain⟨PF,kF,rfl⟩:=Kd.ai h.2.2.2.2.2.1;obtain⟨nC,-,-⟩:=aV h;obtain⟨y0,y1,y2,y3,y4,y5,y6,y7,y8⟩:=gV h;have fJ:=(aa h.1 12).trans (dN h.2.1 _ _ _);have HA:=fH hA;have HO:=fI hO;have HK:=hd hK;clear h hE hI hK hL hA hO
 go_enter func46,ntmps46
 go_wp2_with (first|((go_at_call 88);(with_reducible refine(HA.o _).mono ?_);rintro e w'⟨rfl,rfl⟩)|((go_at_call 87);(with_reducible refine(HO.o _).mono ?_);rintro e w'⟨rfl,rfl⟩)|((go_at_call 43);(refine(bq _ _ _).mono ?_);rintro e w'⟨rfl,rfl⟩))
 go_ret;exact⟨rfl,(by repeat (first|exact ay _ _|exact pY.o|refine af ?_ _|refine aq ?_ _))⟩
theorem Hu(w:World)(base g:Nat)(E:Sp.Env)(cs:List Value)(vL v1 v2:Value)(s:Sp.St)(vT vF:Value)(h:aJ w base g (di vL v1 v2) (cs++ [vL,v1,v2]) s vT vF)(hE:dO w base E cs vL v1 v2)(hI:Sp.cq s)(a b n:Int)(A:Option Addr)(l c:Nat)(op:Int)(hA:Sp.eD op=false)(hO:Sp.opens op=true)(hs:fh E.M.f0):Calls prog 46 #[.pointer (some ⟨g,0,none⟩),bX op a b n (.slice A l c)] w (aB ((Sp.aQ E.M a).isSome) w):=by
 have hK:=fq hE;obtain⟨A0,c0,A1,c1,A2,c2,A3,c3,A4,c4,A5,c5,A6,c6,A7,c7,rfl,-⟩:=aD hK;have hL:=hE.choose_spec.2.2.2.1;obtain⟨PL,kL,rfl⟩:=Kd.ai hL;obtain⟨PF,kF,rfl⟩:=Kd.ai h.2.2.2.2.2.1;obtain⟨nC,-,-⟩:=aV h;obtain⟨y0,y1,y2,y3,y4,y5,y6,y7,y8⟩:=gV h;have fJ:=(aa h.1 12).trans (dN h.2.1 _ _ _);have HA:=fH hA;have HO:=fI hO;have HK:=hd hK;clear h hE hI hK hL hA hO;have uV:=hd (fun(_:Unit)=>oV E.M _ a ((w.alloc (av op a b n (.slice A l c))).alloc (.cells #[.slice A0 E.M.f0.length c0,.slice A1 E.M.f1.length c1,.slice A2 E.M.f2.length c2,.slice A3 E.M.f3.length c3,.slice A4 E.M.f4.length c4,.slice A5 E.M.f5.length c5,.slice A6 E.M.f6.length c6,.slice A7 E.M.f7.length c7] 37)) (Kd.dJ bZ (af (af (ay _ _) _) _) HK.o) hs);clear hs
 go_enter func46,ntmps46
 go_wp2_with (first|((go_at_call 88);(with_reducible refine(HA.o _).mono ?_);rintro e w'⟨rfl,rfl⟩)|((go_at_call 87);(with_reducible refine(HO.o _).mono ?_);rintro e w'⟨rfl,rfl⟩)|((go_at_call 43);(refine(bq _ _ _).mono ?_);rintro e w'⟨rfl,rfl⟩)|((go_at_call 89);(with_reducible refine(uV.o ()).mono ?_);rintro e w2⟨u1,u2,rfl,r1,r2,hb⟩;obtain⟨P1,k1,rfl⟩:=Kd.ai r1;obtain⟨P2,k2,rfl⟩:=Kd.ai r2;have pY:=hd hb;clear r1 r2 hb))
 go_ret;refine⟨rfl,af (aA (af (af (ay _ _) _) _) (by simp;omega) pY.o) _⟩
theorem N4(w:World)(base g:Nat)(E:Sp.Env)(cs:List Value)(vL v1 v2:Value)(s:Sp.St)(vT vF:Value)(h:aJ w base g (di vL v1 v2) (cs++ [vL,v1,v2]) s vT vF)(hE:dO w base E cs vL v1 v2)(hI:Sp.cq s)(a b n:Int)(A:Option Addr)(l c:Nat)(op:Int)(hA:Sp.eD op=false)(hO:Sp.opens op=false)(hs:fh E.M.f0)(n1:E.M.f1.length<=1000000)(n2:E.M.f2.length<=1000000)(f0: -2147483648<=a)(f9:a<=2147483647)(zq:(op==12)=false)(DY:(op==13)=false)(Fa:(op==14)=false)(Gn:(op==16)=true):Calls prog 46 #[.pointer (some ⟨g,0,none⟩),bX op a b n (.slice A l c)] w (aB ((Sp.aM E.M a).isSome) w):=by
 have hK:=fq hE;obtain⟨A0,c0,A1,c1,A2,c2,A3,c3,A4,c4,A5,c5,A6,c6,A7,c7,rfl,-⟩:=aD hK;have hL:=hE.choose_spec.2.2.2.1;obtain⟨PL,kL,rfl⟩:=Kd.ai hL;obtain⟨PF,kF,rfl⟩:=Kd.ai h.2.2.2.2.2.1;obtain⟨nC,-,-⟩:=aV h;obtain⟨y0,y1,y2,y3,y4,y5,y6,y7,y8⟩:=gV h;have fJ:=(aa h.1 12).trans (dN h.2.1 _ _ _);have HA:=fH hA;have HO:=fI hO;have HK:=hd hK;clear h hE hI hK hL hA hO;have Ut:=hd (fun(_:Unit)=>iF E.M _ a ((w.alloc (av op a b n (.slice A l c))).alloc (.cells #[.slice A0 E.M.f0.length c0,.slice A1 E.M.f1.length c1,.slice A2 E.M.f2.length c2,.slice A3 E.M.f3.length c3,.slice A4 E.M.f4.length c4,.slice A5 E.M.f5.length c5,.slice A6 E.M.f6.length c6,.slice A7 E.M.f7.length c7] 37)) (Kd.dJ bZ (af (af (ay _ _) _) _) HK.o) n1 n2 hs f0 f9);clear hs n1 n2 f0 f9
 go_enter func46,ntmps46
 go_wp2_with (first|((go_at_call 88);(with_reducible refine(HA.o _).mono ?_);rintro e w'⟨rfl,rfl⟩)|((go_at_call 87);(with_reducible refine(HO.o _).mono ?_);rintro e w'⟨rfl,rfl⟩)|((go_at_call 43);(refine(bq _ _ _).mono ?_);rintro e w'⟨rfl,rfl⟩)|((go_at_call 84);(with_reducible refine(Ut.o ()).mono ?_);rintro e w2⟨u1,u2,rfl,r1,r2,hb⟩;obtain⟨P1,k1,rfl⟩:=Kd.ai r1;obtain⟨P2,k2,rfl⟩:=Kd.ai r2;have pY:=hd hb;clear r1 r2 hb))
 go_ret;refine⟨rfl,af (aA (af (af (ay _ _) _) _) (by simp;omega) pY.o) _⟩
theorem N5(w:World)(base g:Nat)(E:Sp.Env)(cs:List Value)(vL v1 v2:Value)(s:Sp.St)(vT vF:Value)(h:aJ w base g (di vL v1 v2) (cs++ [vL,v1,v2]) s vT vF)(hE:dO w base E cs vL v1 v2)(hI:Sp.cq s)(a b n:Int)(A:Option Addr)(l c:Nat)(op:Int)(hA:Sp.eD op=false)(hO:Sp.opens op=false)(hs:fh E.M.f0)(n1:E.M.f1.length<=1000000)(n2:E.M.f2.length<=1000000)(f0: -2147483648<=a)(f9:a<=2147483647)(zq:(op==12)=false)(DY:(op==13)=false)(Fa:(op==14)=false)(Gn:(op==16)=false)(Hr:(op==18)=true):Calls prog 46 #[.pointer (some ⟨g,0,none⟩),bX op a b n (.slice A l c)] w (aB ((Sp.aM E.M a).isSome) w):=by
 have hK:=fq hE;obtain⟨A0,c0,A1,c1,A2,c2,A3,c3,A4,c4,A5,c5,A6,c6,A7,c7,rfl,-⟩:=aD hK;have hL:=hE.choose_spec.2.2.2.1;obtain⟨PL,kL,rfl⟩:=Kd.ai hL;obtain⟨PF,kF,rfl⟩:=Kd.ai h.2.2.2.2.2.1;obtain⟨nC,-,-⟩:=aV h;obtain⟨y0,y1,y2,y3,y4,y5,y6,y7,y8⟩:=gV h;have fJ:=(aa h.1 12).trans (dN h.2.1 _ _ _);have HA:=fH hA;have HO:=fI hO;have HK:=hd hK;clear h hE hI hK hL hA hO;have Ut:=hd (fun(_:Unit)=>iF E.M _ a ((w.alloc (av op a b n (.slice A l c))).alloc (.cells #[.slice A0 E.M.f0.length c0,.slice A1 E.M.f1.length c1,.slice A2 E.M.f2.length c2,.slice A3 E.M.f3.length c3,.slice A4 E.M.f4.length c4,.slice A5 E.M.f5.length c5,.slice A6 E.M.f6.length c6,.slice A7 E.M.f7.length c7] 37)) (Kd.dJ bZ (af (af (ay _ _) _) _) HK.o) n1 n2 hs f0 f9);clear hs n1 n2 f0 f9
 go_enter func46,ntmps46
 go_wp2_with (first|((go_at_call 88);(with_reducible refine(HA.o _).mono ?_);rintro e w'⟨rfl,rfl⟩)|((go_at_call 87);(with_reducible refine(HO.o _).mono ?_);rintro e w'⟨rfl,rfl⟩)|((go_at_call 43);(refine(bq _ _ _).mono ?_);rintro e w'⟨rfl,rfl⟩)|((go_at_call 84);(with_reducible refine(Ut.o ()).mono ?_);rintro e w2⟨u1,u2,rfl,r1,r2,hb⟩;obtain⟨P1,k1,rfl⟩:=Kd.ai r1;obtain⟨P2,k2,rfl⟩:=Kd.ai r2;have pY:=hd hb;clear r1 r2 hb))
 go_ret;refine⟨rfl,af (aA (af (af (ay _ _) _) _) (by simp;omega) pY.o) _⟩
theorem N6(w:World)(base g:Nat)(E:Sp.Env)(cs:List Value)(vL v1 v2:Value)(s:Sp.St)(vT vF:Value)(h:aJ w base g (di vL v1 v2) (cs++ [vL,v1,v2]) s vT vF)(hE:dO w base E cs vL v1 v2)(hI:Sp.cq s)(a b n:Int)(A:Option Addr)(l c:Nat)(op:Int)(hA:Sp.eD op=false)(hO:Sp.opens op=false)(zq:(op==12)=true):Calls prog 46 #[.pointer (some ⟨g,0,none⟩),bX op a b n (.slice A l c)] w (aB (Sp.within a 0 ((s.F.length:Int)-1)) w):=by
 have hK:=fq hE;obtain⟨A0,c0,A1,c1,A2,c2,A3,c3,A4,c4,A5,c5,A6,c6,A7,c7,rfl,-⟩:=aD hK;have hL:=hE.choose_spec.2.2.2.1;obtain⟨PL,kL,rfl⟩:=Kd.ai hL;obtain⟨PF,kF,rfl⟩:=Kd.ai h.2.2.2.2.2.1;obtain⟨nC,-,-⟩:=aV h;obtain⟨y0,y1,y2,y3,y4,y5,y6,y7,y8⟩:=gV h;have fJ:=(aa h.1 12).trans (dN h.2.1 _ _ _);have HA:=fH hA;have HO:=fI hO;have HK:=hd hK;clear h hE hI hK hL hA hO
 go_enter func46,ntmps46
 go_wp2_with (first|((go_at_call 88);(with_reducible refine(HA.o _).mono ?_);rintro e w'⟨rfl,rfl⟩)|((go_at_call 87);(with_reducible refine(HO.o _).mono ?_);rintro e w'⟨rfl,rfl⟩)|((go_at_call 43);(refine(bq _ _ _).mono ?_);rintro e w'⟨rfl,rfl⟩))
 go_quiet ((go_at_call 43;exact Calls.quiet_of_same ((bq _ _ _).mono (fun _ _ h=>⟨h.1,h.2.symm⟩))))
 go_wp2_with fail
 go_ret;exact⟨rfl,(by repeat (first|exact ay _ _|refine af ?_ _|refine aq ?_ _))⟩
theorem N7(w:World)(base g:Nat)(E:Sp.Env)(cs:List Value)(vL v1 v2:Value)(s:Sp.St)(vT vF:Value)(h:aJ w base g (di vL v1 v2) (cs++ [vL,v1,v2]) s vT vF)(hE:dO w base E cs vL v1 v2)(hI:Sp.cq s)(a b n:Int)(A:Option Addr)(l c:Nat)(op:Int)(hA:Sp.eD op=false)(hO:Sp.opens op=false)(zq:(op==12)=false)(DY:(op==13)=true):Calls prog 46 #[.pointer (some ⟨g,0,none⟩),bX op a b n (.slice A l c)] w (aB (Sp.within a 0 ((s.F.length:Int)-1)) w):=by
 have hK:=fq hE;obtain⟨A0,c0,A1,c1,A2,c2,A3,c3,A4,c4,A5,c5,A6,c6,A7,c7,rfl,-⟩:=aD hK;have hL:=hE.choose_spec.2.2.2.1;obtain⟨PL,kL,rfl⟩:=Kd.ai hL;obtain⟨PF,kF,rfl⟩:=Kd.ai h.2.2.2.2.2.1;obtain⟨nC,-,-⟩:=aV h;obtain⟨y0,y1,y2,y3,y4,y5,y6,y7,y8⟩:=gV h;have fJ:=(aa h.1 12).trans (dN h.2.1 _ _ _);have HA:=fH hA;have HO:=fI hO;have HK:=hd hK;clear h hE hI hK hL hA hO
 go_enter func46,ntmps46
 go_wp2_with (first|((go_at_call 88);(with_reducible refine(HA.o _).mono ?_);rintro e w'⟨rfl,rfl⟩)|((go_at_call 87);(with_reducible refine(HO.o _).mono ?_);rintro e w'⟨rfl,rfl⟩)|((go_at_call 43);(refine(bq _ _ _).mono ?_);rintro e w'⟨rfl,rfl⟩))
 go_quiet ((go_at_call 43;exact Calls.quiet_of_same ((bq _ _ _).mono (fun _ _ h=>⟨h.1,h.2.symm⟩))))
 go_wp2_with fail
 go_ret;exact⟨rfl,(by repeat (first|exact ay _ _|refine af ?_ _|refine aq ?_ _))⟩
theorem N8(w:World)(base g:Nat)(E:Sp.Env)(cs:List Value)(vL v1 v2:Value)(s:Sp.St)(vT vF:Value)(h:aJ w base g (di vL v1 v2) (cs++ [vL,v1,v2]) s vT vF)(hE:dO w base E cs vL v1 v2)(hI:Sp.cq s)(a b n:Int)(A:Option Addr)(l c:Nat)(op:Int)(hA:Sp.eD op=false)(hO:Sp.opens op=false)(zq:(op==12)=false)(DY:(op==13)=false)(Fa:(op==14)=false)(Gn:(op==16)=false)(Hr:(op==18)=false)(b32:(op==32)=true):Calls prog 46 #[.pointer (some ⟨g,0,none⟩),bX op a b n (.slice A l c)] w (aB (Sp.within a 0 ((E.L.length:Int)-1)) w):=by
 have hK:=fq hE;obtain⟨A0,c0,A1,c1,A2,c2,A3,c3,A4,c4,A5,c5,A6,c6,A7,c7,rfl,-⟩:=aD hK;have hL:=hE.choose_spec.2.2.2.1;obtain⟨PL,kL,rfl⟩:=Kd.ai hL;obtain⟨PF,kF,rfl⟩:=Kd.ai h.2.2.2.2.2.1;obtain⟨nC,-,-⟩:=aV h;obtain⟨y0,y1,y2,y3,y4,y5,y6,y7,y8⟩:=gV h;have fJ:=(aa h.1 12).trans (dN h.2.1 _ _ _);have HA:=fH hA;have HO:=fI hO;have HK:=hd hK;clear h hE hI hK hL hA hO
 go_enter func46,ntmps46
 go_wp2_with (first|((go_at_call 88);(with_reducible refine(HA.o _).mono ?_);rintro e w'⟨rfl,rfl⟩)|((go_at_call 87);(with_reducible refine(HO.o _).mono ?_);rintro e w'⟨rfl,rfl⟩)|((go_at_call 43);(refine(bq _ _ _).mono ?_);rintro e w'⟨rfl,rfl⟩))
 go_quiet ((go_at_call 43;exact Calls.quiet_of_same ((bq _ _ _).mono (fun _ _ h=>⟨h.1,h.2.symm⟩))))
 go_wp2_with fail
 go_ret;exact⟨rfl,(by repeat (first|exact ay _ _|refine af ?_ _|refine aq ?_ _))⟩
theorem N9(w:World)(base g:Nat)(E:Sp.Env)(cs:List Value)(vL v1 v2:Value)(s:Sp.St)(vT vF:Value)(h:aJ w base g (di vL v1 v2) (cs++ [vL,v1,v2]) s vT vF)(hE:dO w base E cs vL v1 v2)(hI:Sp.cq s)(a b n:Int)(A:Option Addr)(l c:Nat)(op:Int)(hA:Sp.eD op=false)(hO:Sp.opens op=false)(zq:(op==12)=false)(DY:(op==13)=false)(Fa:(op==14)=false)(Gn:(op==16)=false)(Hr:(op==18)=false)(b32:(op==32)=false)(KI:(op==33)=true):Calls prog 46 #[.pointer (some ⟨g,0,none⟩),bX op a b n (.slice A l c)] w (aB (Sp.within a 0 ((E.L.length:Int)-1)) w):=by
 have hK:=fq hE;obtain⟨A0,c0,A1,c1,A2,c2,A3,c3,A4,c4,A5,c5,A6,c6,A7,c7,rfl,-⟩:=aD hK;have hL:=hE.choose_spec.2.2.2.1;obtain⟨PL,kL,rfl⟩:=Kd.ai hL;obtain⟨PF,kF,rfl⟩:=Kd.ai h.2.2.2.2.2.1;obtain⟨nC,-,-⟩:=aV h;obtain⟨y0,y1,y2,y3,y4,y5,y6,y7,y8⟩:=gV h;have fJ:=(aa h.1 12).trans (dN h.2.1 _ _ _);have HA:=fH hA;have HO:=fI hO;have HK:=hd hK;clear h hE hI hK hL hA hO
 go_enter func46,ntmps46
 go_wp2_with (first|((go_at_call 88);(with_reducible refine(HA.o _).mono ?_);rintro e w'⟨rfl,rfl⟩)|((go_at_call 87);(with_reducible refine(HO.o _).mono ?_);rintro e w'⟨rfl,rfl⟩)|((go_at_call 43);(refine(bq _ _ _).mono ?_);rintro e w'⟨rfl,rfl⟩))
 go_quiet ((go_at_call 43;exact Calls.quiet_of_same ((bq _ _ _).mono (fun _ _ h=>⟨h.1,h.2.symm⟩))))
 go_wp2_with fail
 go_ret;exact⟨rfl,(by repeat (first|exact ay _ _|refine af ?_ _|refine aq ?_ _))⟩
theorem Oa(w:World)(base g:Nat)(E:Sp.Env)(cs:List Value)(vL v1 v2:Value)(s:Sp.St)(vT vF:Value)(h:aJ w base g (di vL v1 v2) (cs++ [vL,v1,v2]) s vT vF)(hE:dO w base E cs vL v1 v2)(hI:Sp.cq s)(a b n:Int)(A:Option Addr)(l c:Nat)(op:Int)(hA:Sp.eD op=false)(hO:Sp.opens op=false)(zq:(op==12)=false)(DY:(op==13)=false)(Fa:(op==14)=false)(Gn:(op==16)=false)(Hr:(op==18)=false)(b32:(op==32)=false)(KI:(op==33)=false)(L9:(op==34)=true):Calls prog 46 #[.pointer (some ⟨g,0,none⟩),bX op a b n (.slice A l c)] w (aB (Sp.within a 0 ((E.L.length:Int)-1)) w):=by
 have hK:=fq hE;obtain⟨A0,c0,A1,c1,A2,c2,A3,c3,A4,c4,A5,c5,A6,c6,A7,c7,rfl,-⟩:=aD hK;have hL:=hE.choose_spec.2.2.2.1;obtain⟨PL,kL,rfl⟩:=Kd.ai hL;obtain⟨PF,kF,rfl⟩:=Kd.ai h.2.2.2.2.2.1;obtain⟨nC,-,-⟩:=aV h;obtain⟨y0,y1,y2,y3,y4,y5,y6,y7,y8⟩:=gV h;have fJ:=(aa h.1 12).trans (dN h.2.1 _ _ _);have HA:=fH hA;have HO:=fI hO;have HK:=hd hK;clear h hE hI hK hL hA hO
 go_enter func46,ntmps46
 go_wp2_with (first|((go_at_call 88);(with_reducible refine(HA.o _).mono ?_);rintro e w'⟨rfl,rfl⟩)|((go_at_call 87);(with_reducible refine(HO.o _).mono ?_);rintro e w'⟨rfl,rfl⟩)|((go_at_call 43);(refine(bq _ _ _).mono ?_);rintro e w'⟨rfl,rfl⟩))
 go_quiet ((go_at_call 43;exact Calls.quiet_of_same ((bq _ _ _).mono (fun _ _ h=>⟨h.1,h.2.symm⟩))))
 go_wp2_with fail
 go_ret;exact⟨rfl,(by repeat (first|exact ay _ _|refine af ?_ _|refine aq ?_ _))⟩
theorem KL{p:Int->Bool}{xs:List Int}{k:Nat}(h:(xs.take k).any p=false)(hx:k<xs.length)(he:p (rd xs (k:Int))=false):(xs.take (k+1)).any p=false:=by
 rw[List.take_succ_eq_append_getElem hx,List.any_append,h];simp[rd,gq,hx]at he;simp[he]
theorem RR{p:Int->Bool}{xs:List Int}{k:Nat}(hx:k<xs.length)(he:p (rd xs (k:Int))=true):xs.any p=true:=by
 rw[List.any_eq_true];simp[rd,gq,hx]at he;exact⟨xs[k],List.getElem_mem hx,he⟩
theorem Ob(w:World)(base g:Nat)(E:Sp.Env)(cs:List Value)(vL v1 v2:Value)(s:Sp.St)(vT vF:Value)(h:aJ w base g (di vL v1 v2) (cs++ [vL,v1,v2]) s vT vF)(hE:dO w base E cs vL v1 v2)(hI:Sp.cq s)(a b n:Int)(A:Option Addr)(L:List Int)(c:Nat)(hL:bf w A L)(l4:L.length<=1000000)(op:Int)(hA:Sp.eD op=false)(hO:Sp.opens op=false)(zq:(op==12)=false)(DY:(op==13)=false)(Fa:(op==14)=true):Calls prog 46 #[.pointer (some ⟨g,0,none⟩),bX op a b n (.slice A L.length c)] w (aB (!L.any (fun n=> !Sp.within n 0 ((s.F.length:Int)-1))) w):=by
 have hK:=fq hE;obtain⟨A0,c0,A1,c1,A2,c2,A3,c3,A4,c4,A5,c5,A6,c6,A7,c7,rfl,-⟩:=aD hK;have hL:=hE.choose_spec.2.2.2.1;obtain⟨PL,kL,rfl⟩:=Kd.ai hL;obtain⟨PF,kF,rfl⟩:=Kd.ai h.2.2.2.2.2.1;obtain⟨nC,-,-⟩:=aV h;obtain⟨y0,y1,y2,y3,y4,y5,y6,y7,y8⟩:=gV h;have fJ:=(aa h.1 12).trans (dN h.2.1 _ _ _);have HA:=fH hA;have HO:=fI hO;have HK:=hd hK;clear h hE hI hK hL hA hO;have HL:=hd hL;clear hL
 go_enter func46,ntmps46
 go_wp2_with (first|((go_at_call 88);(with_reducible refine(HA.o _).mono ?_);rintro e w'⟨rfl,rfl⟩)|((go_at_call 87);(with_reducible refine(HO.o _).mono ?_);rintro e w'⟨rfl,rfl⟩)|((go_at_call 43);(refine(bq _ _ _).mono ?_);rintro e w'⟨rfl,rfl⟩))
 clear y0 y1 y2 y3 y4 y5 y6 y7 y8;have Y12:=hd fJ;clear fJ
 go_loopw [66] (fun i wr=> ∃k:Nat,k<=L.length/\i= .int .i64 k/\Hid ((L.take k).any (fun n=> !Sp.within n 0 ((s.F.length:Int)-1))=false)/\Hid (Below w.heap.size w wr)) (fun i _=>L.length-(intOf i).toNat)
 case atStart=>exact⟨0,by omega,rfl,hd rfl,hd (by repeat (first|exact ay _ _|refine af ?_ _|refine aq ?_ _))⟩
 case round=>
  obtain⟨k,hk,rfl,HT,HB⟩:=hrel;rename_i wr _;have fJ:=(HB.o.cell (p:=⟨g,12,none⟩) nC).trans Y12.o;by_cases bI:k<L.length
  ·obtain⟨ad,rfl,e0⟩:=Kd.fQ (Kd.bJ HL.o HB.o) (k:Int) (by omega) (by omega)
   rw[dF]at e0;obtain⟨x,hx⟩:=ex (rd L (k:Int));rw[<-hx]at e0;have HX:=hd hx;clear hx;obtain⟨bb,ek⟩:=ex (Sp.within x 0 ((s.F.length:Int)-1));have cE:=hd ek;clear ek;have HTH:=hd (show∀W,Calls prog 43 #[.int .i64 x,.int .i64 (s.F.length:Int)] W (fun e w'=>e= .returned (.bool bb)/\W=w')from fun W=>by rw[cE.o];exact bq _ _ W);cases bb with
   |false=>
    go_wp2_with (first|((go_at_call 43);(with_reducible refine(HTH.o _).mono ?_);rintro e w'⟨rfl,rfl⟩))
    go_ret;refine⟨?_,HB.o⟩;rw[RR bI (by rw[<-HX.o,<-cE.o];rfl)];rfl
   |true=>
    go_wp2_with (first|((go_at_call 43);(with_reducible refine(HTH.o _).mono ?_);rintro e w'⟨rfl,rfl⟩))
    go_roundw
    case rel=>exact⟨k+1,by omega,by go_num,hd (KL HT.o bI (by rw[<-HX.o,<-cE.o];rfl)),HB⟩
    case measure=>simp[intOf];omega
  ·go_wp2_with fail
   go_ret;refine⟨?_,HB.o⟩;have h:=HT.o;rw[List.take_of_length_le (by omega)]at h;rw[h];rfl
def gO(base:Nat)(w:World)(A:Option Addr)(l:List Int):Prop:= ∃w0:World,w0.heap.size<=base/\Below w0.heap.size w0 w/\bf w0 A l
theorem gO.then{base:Nat}{w w':World}{A:Option Addr}{l:List Int}(h:gO base w A l)(hb:Below base w w'):gO base w' A l:=by
 obtain⟨w0,h1,h2,h3⟩:=h;exact⟨w0,h1,⟨hb.os.trans h2.os,hb.tape.trans h2.tape,hb.output.trans h2.output,cG h2.size hb.size,fun k hk=>(hb.block k (by omega)).trans (h2.block k hk)⟩,h3⟩
theorem gO.reads{base:Nat}{w:World}{A:Option Addr}{l:List Int}(h:gO base w A l):bf w A l:=by
 obtain⟨w0,h1,h2,h3⟩:=h;exact Kd.bJ h3 h2
theorem gO.up{base:Nat}{w w':World}{A:Option Addr}{l:List Int}(h:gO base w A l)(hs:base<=w.heap.size)(hb:Below w.heap.size w w'):gO base w' A l:=
 h.then ⟨hb.os,hb.tape,hb.output,hb.size,fun k hk=>hb.block k (by omega)⟩
end Go.Proofs.YthehihjcpiadgaaGreat
section
namespace Go.Proofs.YthehihjcpiadgaaGreat
open Go.RowKit Go.Proofs.Wz.PrintWords Go.Proofs.Wz.bM
namespace Sp
def zv(k:Nat)(s:St):Prop:=cq s/\s.T.length<=8*k/\s.F.length<=k+1/\ ∀i:Int,0<=i->i<s.F.length->(bB s.F i).f1.f0.length<=8/\(bB s.F i).f1.f1.length<=8
def run(E:Env)(pl:Bool):List aW->Nat->St->Int×Int
 | [],_,_=>(-1,0)
 |i::l,k,s=>if s.dQ E pl i=0 then run E pl l (k+1) (s.step E i)else((k:Int),s.dQ E pl i)
theorem Ff(E:Env)(pl:Bool)(code:List aW)(k:Nat)(s:St)(h:k<code.length):run E pl (code.drop k) k s=if s.dQ E pl (aO code k)=0 then run E pl (code.drop (k+1)) (k+1) (s.step E (aO code k))else((k:Int),s.dQ E pl (aO code k)):=by
 rw[List.drop_eq_getElem_cons h];have e:aO code (k:Int)=code[k]:=by simp[aO,gq,h]
 rw[e];rfl
def begin(E:Env):St:=⟨[],[⟨2,⟨[],E.S.f1⟩,0,false⟩],false⟩
end Sp
def xT(E:Sp.Env)(i:aW):Prop:= ∀(w:World) (base g:Nat) (cs:List Value) (vL v1 v2:Value) (s:Sp.St) (vT vF:Value) (A:Option Addr) (c:Nat),
 aJ w base g (di vL v1 v2) (cs++ [vL,v1,v2]) s vT vF->dO w base E cs vL v1 v2->Sp.cq s->bf w A i.f4->
 Calls prog 46 #[.pointer (some ⟨g,0,none⟩),bX i.f0 i.f1 i.f2 i.f3 (.slice A i.f4.length c)] w (aB (s.known E i) w)
theorem nM{B B2:Nat}{w W W':World}(h:Below B w W)(h2:Below B2 W W')(hB:B<=B2):Below B w W':=
 ⟨h2.os.trans h.os,h2.tape.trans h.tape,h2.output.trans h.output,cG h.size h2.size,fun k hk=>(h2.block k (by omega)).trans (h.block k hk)⟩
def eW(E:Sp.Env)(i:aW):Prop:= ∀(k:Nat) (w:World) (base g:Nat) (cs:List Value) (vL v1 v2:Value) (s:Sp.St) (vT vF:Value) (A:Option Addr) (c:Nat),
 aJ w base g (di vL v1 v2) (cs++ [vL,v1,v2]) s vT vF->dO w base E cs vL v1 v2->Sp.zv k s->k<=65536->s.known E i=true->gO base w A i.f4->
 Calls prog 47 #[.pointer (some ⟨g,0,none⟩),bX i.f0 i.f1 i.f2 i.f3 (.slice A i.f4.length c)] w (fG g base (di vL v1 v2) (cs++ [vL,v1,v2]) w vT vF (s.step E i))/\Sp.zv (k+1) (s.step E i)
def pF(r:Int×Int)(w:World)(e:Ending)(w':World):Prop:=e= .returned (.tuple #[.int .i64 r.1,.int .i64 r.2])/\Below w.heap.size w w'
theorem zw(E:Sp.Env)(h:E.S.f1.length<=8):Sp.zv 0 (Sp.begin E):=by
 have e: ∀i:Int,0<=i->i<((Sp.begin E).F.length:Int)->bB (Sp.begin E).F i=⟨2,⟨[],E.S.f1⟩,0,false⟩:=fun i h0 h1=>by
  have:i=0:=by simp[Sp.begin]at h1;omega
  subst this;rfl
 refine⟨⟨by simp[Sp.begin],by simp[Sp.begin],by simp[Sp.begin],fun i h0 h1=>?_,fun i j h0 h1 h2=>?_⟩,by simp[Sp.begin],by simp[Sp.begin],fun i h0 h1=>?_⟩
 ·rw[e i h0 h1];simp[Sp.begin]
 ·rw[e i h0 (by omega),e j (by omega) h2];exact Int.le_refl _
 ·rw[e i h0 h1];exact⟨by simp,h⟩
theorem Dc(M:bL)(cs:List Value)(j:Int)(w:World)(hM:bZ.K w M cs)(n1:M.f1.length<=1000000)(n2:M.f2.length<=1000000)(hs:fh M.f0)(h0:0<=j)(h1:j<M.f2.length)(t:ig)(ht:Sp.aM M ((M.f1.length:Int)+j)=some t)(lp:t.f0.length<=1000000)(l8:t.f1.length<=8)(ll:(aF M.f2 j).f1.length<=1000000)(lc:(aF M.f2 j).f2.length<=65536)
 (hKn: ∀k:Nat,k<(aF M.f2 j).f2.length->xT ⟨M,t.f0++(aF M.f2 j).f1,t⟩ (aO (aF M.f2 j).f2 (k:Int))) (Gp: ∀k:Nat,k<(aF M.f2 j).f2.length->eW ⟨M,t.f0++(aF M.f2 j).f1,t⟩ (aO (aF M.f2 j).f2 (k:Int))):
 Calls prog 21 #[.agg cs.toArray,.int .i64 j,.int .i64 1] w (pF (Sp.run ⟨M,t.f0++(aF M.f2 j).f1,t⟩ true (aF M.f2 j).f2 0 (Sp.begin ⟨M,t.f0++(aF M.f2 j).f1,t⟩)) w):=by
 obtain⟨A0,c0,A1,c1,A2,c2,A3,c3,A4,c4,A5,c5,A6,c6,A7,c7,rfl,l0,g0,l1,g1,l2,g2,-⟩:=aD hM;obtain⟨fd,B2,d2,B3,d3,rfl,e2,e3,e4,-,-,-,q5⟩:=ku g2 j h0 h1;have bI:=aR w _ e4;have Oc:=hd (fun(_:Unit)=>BR M _ j (w.alloc (.cells #[.slice A0 M.f0.length c0,.slice A1 M.f1.length c1,.slice (some fd) M.f2.length c2,.slice A3 M.f3.length c3,.slice A4 M.f4.length c4,.slice A5 M.f5.length c5,.slice A6 M.f6.length c6,.slice A7 M.f7.length c7] 37)) (Kd.dJ bZ (af (ay _ _) _) hM) n1 n2 hs h0 h1 t ht lp ll);obtain⟨E,hEq⟩: ∃E:Sp.Env,E=⟨M,t.f0++(aF M.f2 j).f1,t⟩:=⟨_,rfl⟩;obtain⟨code,hcd⟩:=ex ((aF M.f2 j).f2);rw[<-hEq]at Oc hKn Gp⊢;rw[<-hcd]at q5 e4 hKn Gp lc⊢;have XX:E.S.f1=t.f1:=by rw[hEq]
 have w3:Sp.within j 0 ((M.f2.length:Int)-1)=true:=by simp[Sp.within];omega
 have KM:=hd (show E.S.f1.length<=8 by rw[XX];exact l8);have Ro:=hd e4;have Jv:=hd q5;have Ws:=hd hKn;have HST:=hd Gp;have xU:=hd lc;clear e2 e3 e4 q5 g0 g1 g2 hM hs ht lp ll n1 l0 l1 l2 hcd hEq XX l8 hKn Gp
 go_enter func21,ntmps21
 go_wp2_with (first|((go_at_call 43);(refine(bq _ _ _).mono ?_);rintro e w'⟨rfl,rfl⟩)|((go_at_call 44);(with_reducible refine(Oc.o ()).mono ?_);rintro e W⟨g,vL,v1,v2,vT,vF,rfl,hb,hE,hS⟩;have x0:=(hb.block w.heap.size (by simp)).trans (dh w _);have y2:=(aa x0 2).trans rfl;have hsz:w.heap.size+1<=W.heap.size:=(by have:=hb.size;simpa using this);have HW:=hd (aA (af (ay _ _) _) (by simp) hb:Below w.heap.size w W);have e4:=(HW.o.cell (p:=⟨(fd.add (j.toNat*3)).block,(fd.add (j.toNat*3)).off+2,none⟩) bI).trans Ro.o;have Hi:=hd x0;have HE:=hd hE;have HS:=hd hS;clear hb hE hS x0))
 go_loopw [35] (fun i wr=> ∃(k:Nat) (s:Sp.St) (vT vF:Value),k<=code.length/\i= .int .i64 k/\Hid (aJ wr (w.heap.size+1) g (di vL v1 v2) ([.slice A0 M.f0.length c0,.slice A1 M.f1.length c1,.slice (some fd) M.f2.length c2,.slice A3 M.f3.length c3,.slice A4 M.f4.length c4,.slice A5 M.f5.length c5,.slice A6 M.f6.length c6,.slice A7 M.f7.length c7]++ [vL,v1,v2]) s vT vF)/\Hid (dO wr (w.heap.size+1) E [.slice A0 M.f0.length c0,.slice A1 M.f1.length c1,.slice (some fd) M.f2.length c2,.slice A3 M.f3.length c3,.slice A4 M.f4.length c4,.slice A5 M.f5.length c5,.slice A6 M.f6.length c6,.slice A7 M.f7.length c7] vL v1 v2)/\Hid (Sp.zv k s)/\Hid (s.bad=false)/\Hid (Sp.run E true code 0 (Sp.begin E)=Sp.run E true (code.drop k) k s)/\Hid (Below w.heap.size w wr)) (fun i _=>code.length-(intOf i).toNat)
 case atStart=>
  have hse:(w.alloc (.cells #[.slice A0 M.f0.length c0,.slice A1 M.f1.length c1,.slice (some fd) M.f2.length c2,.slice A3 M.f3.length c3,.slice A4 M.f4.length c4,.slice A5 M.f5.length c5,.slice A6 M.f6.length c6,.slice A7 M.f7.length c7] 37)).heap.size=w.heap.size+1:=by simp
  have h1:=HS.o;have h2:=HE.o;rw[hse]at h1 h2;exact⟨0,Sp.begin E,vT,vF,Nat.zero_le _,rfl,hd h1,hd h2,hd (zw E KM.o),hd rfl,hd rfl,HW⟩
 case round=>
  obtain⟨k,s,qV,qW,hk,rfl,oK,Fg,AW,HBD,AX,bE⟩:=hrel;clear HS HE Hi y2 e4;by_cases CI:k<code.length
  ·obtain⟨ad,A9,c9,hA,i0,i1,i2,i3,i4,-,q4⟩:=jF Jv.o (k:Int) (by omega) (by omega)
   have i0:=(bE.o.cell (aR _ _ i0)).trans i0;have i1:=(bE.o.cell (aR _ _ i1)).trans i1;have i2:=(bE.o.cell (aR _ _ i2)).trans i2;have i3:=(bE.o.cell (aR _ _ i3)).trans i3;have i4:=(bE.o.cell (aR _ _ i4)).trans i4;subst hA;rw[dF]at i0 i1 i2 i3 i4;have pX:=hd (Sp.Ff E true code k s CI);have KN:=hd (Ws.o k CI);have ST:=hd (HST.o k CI);obtain⟨x,hx⟩:=ex (aO code (k:Int));rw[<-hx]at i0 i1 i2 i3 i4 q4 pX KN ST;clear hx;have Fh:=hd (show gO (w.heap.size+1) wr A9 x.f4 from⟨w,by omega,bE.o,q4⟩);clear q4;obtain⟨bk,hbk⟩:=ex (s.known E x);obtain⟨bs,Ma⟩:=ex ((s.step E x).bad);obtain⟨br,hbr⟩:=ex (Sp.uz x);have zx:=hd hbk;have pY:=hd Ma;have KO:=hd hbr;clear hbk Ma hbr;have b0:aJ (wr.alloc (av x.f0 x.f1 x.f2 x.f3 (.slice A9 x.f4.length c9))) (w.heap.size+1) g (di vL v1 v2) ([.slice A0 M.f0.length c0,.slice A1 M.f1.length c1,.slice (some fd) M.f2.length c2,.slice A3 M.f3.length c3,.slice A4 M.f4.length c4,.slice A5 M.f5.length c5,.slice A6 M.f6.length c6,.slice A7 M.f7.length c7]++ [vL,v1,v2]) s qV qW:=aI oK.o _;have XY:=aC Fg.o (af (ay _ _) (av x.f0 x.f1 x.f2 x.f3 (.slice A9 x.f4.length c9)));have bx0:=dh wr (av x.f0 x.f1 x.f2 x.f3 (.slice A9 x.f4.length c9));have B0:=hd b0;have qg:=hd XY;have Od:=hd bx0;clear b0 XY bx0;cases br with
   |true=>
    have qh:=hd (show s.dQ E true x=24 by unfold Sp.St.dQ;rw[<-KO.o];rfl)
    go_wp2_with (first|((go_at_call 45);(refine(oW x.f0 x.f1 x.f2 x.f3 (.slice A9 x.f4.length c9) ⟨_,_,_,rfl⟩ _).mono ?_);rintro e wa⟨rfl,hba⟩;have nx:=(hba.block wr.heap.size (by simp)).trans Od.o;have j0:=(aa nx 0).trans rfl;have j1:=(aa nx 1).trans rfl;have j2:=(aa nx 2).trans rfl;have j3:=(aa nx 3).trans rfl;have j4:=(aa nx 4).trans rfl;have lY:=hd hba;have NX:=hd nx;clear hba nx;rw[show Sp.wG x.f0 x.f1=_ from KO.o.symm])|((go_at_call 46);(refine(KN.o _ _ g _ vL v1 v2 s qV qW A9 c9 (aY B0.o lY.o) (aC qg.o lY.o) AW.o.1 (Kd.bJ (Kd.aS Fh.o.reads _) lY.o)).mono ?_);rintro e wb⟨rfl,ek⟩;have lz:=(ek.block wr.heap.size (aj NX.o)).trans NX.o;have k0:=(aa lz 0).trans rfl;have k1:=(aa lz 1).trans rfl;have k2:=(aa lz 2).trans rfl;have k3:=(aa lz 3).trans rfl;have k4:=(aa lz 4).trans rfl;have cE:=hd ek;have Wt:=hd lz;clear ek lz;rw[<-zx.o])|((go_at_call 47);(refine((ST.o k _ _ g _ vL v1 v2 s qV qW A9 c9 (aY (aY B0.o lY.o) cE.o) (aC (aC qg.o lY.o) cE.o) AW.o (by have:=xU.o;omega) zx.o.symm (((Fh.o.up (dc Fg.o) (af (ay _ _) _)).up (dc qg.o) lY.o).up (dc (aC qg.o lY.o)) cE.o)).1).mono ?_);rintro e wc⟨rfl,qu,sY,m2,BS⟩;have M2:=hd m2;have S2:=hd BS;clear m2 BS;rw[<-pY.o]))
    have hrun:Sp.run E true code 0 (Sp.begin E)=((k:Int),24):=by
     rw[AX.o,pX.o,if_neg (by rw[qh.o];decide),qh.o]
    rw[hrun];go_ret2;exact⟨rfl,(aA (aA bE.o bE.o.size (af (ay _ _) _)) (cG bE.o.size (by simp)) lY.o)⟩
   |false=>
    cases bk with
    |false=>
     have qh:=hd (show s.dQ E true x=23 by unfold Sp.St.dQ;rw[<-zx.o];rw[<-KO.o];rfl)
     go_wp2_with (first|((go_at_call 45);(refine(oW x.f0 x.f1 x.f2 x.f3 (.slice A9 x.f4.length c9) ⟨_,_,_,rfl⟩ _).mono ?_);rintro e wa⟨rfl,hba⟩;have nx:=(hba.block wr.heap.size (by simp)).trans Od.o;have j0:=(aa nx 0).trans rfl;have j1:=(aa nx 1).trans rfl;have j2:=(aa nx 2).trans rfl;have j3:=(aa nx 3).trans rfl;have j4:=(aa nx 4).trans rfl;have lY:=hd hba;have NX:=hd nx;clear hba nx;rw[show Sp.wG x.f0 x.f1=_ from KO.o.symm])|((go_at_call 46);(refine(KN.o _ _ g _ vL v1 v2 s qV qW A9 c9 (aY B0.o lY.o) (aC qg.o lY.o) AW.o.1 (Kd.bJ (Kd.aS Fh.o.reads _) lY.o)).mono ?_);rintro e wb⟨rfl,ek⟩;have lz:=(ek.block wr.heap.size (aj NX.o)).trans NX.o;have k0:=(aa lz 0).trans rfl;have k1:=(aa lz 1).trans rfl;have k2:=(aa lz 2).trans rfl;have k3:=(aa lz 3).trans rfl;have k4:=(aa lz 4).trans rfl;have cE:=hd ek;have Wt:=hd lz;clear ek lz;rw[<-zx.o])|((go_at_call 47);(refine((ST.o k _ _ g _ vL v1 v2 s qV qW A9 c9 (aY (aY B0.o lY.o) cE.o) (aC (aC qg.o lY.o) cE.o) AW.o (by have:=xU.o;omega) zx.o.symm (((Fh.o.up (dc Fg.o) (af (ay _ _) _)).up (dc qg.o) lY.o).up (dc (aC qg.o lY.o)) cE.o)).1).mono ?_);rintro e wc⟨rfl,qu,sY,m2,BS⟩;have M2:=hd m2;have S2:=hd BS;clear m2 BS;rw[<-pY.o]))
     have hrun:Sp.run E true code 0 (Sp.begin E)=((k:Int),23):=by
      rw[AX.o,pX.o,if_neg (by rw[qh.o];decide),qh.o]
     rw[hrun];go_ret2;exact⟨rfl,aA (aA (aA bE.o bE.o.size (af (ay _ _) _)) (cG bE.o.size (by simp)) lY.o) (cG bE.o.size (by first|(have:=lY.o.size;simp at this;omega)|simp)) cE.o⟩
    |true=>
     cases bs with
     |true=>
      have qh:=hd (show s.dQ E true x=14 by unfold Sp.St.dQ;rw[<-zx.o,<-pY.o];rw[<-KO.o];rfl)
      go_wp2_with (first|((go_at_call 45);(refine(oW x.f0 x.f1 x.f2 x.f3 (.slice A9 x.f4.length c9) ⟨_,_,_,rfl⟩ _).mono ?_);rintro e wa⟨rfl,hba⟩;have nx:=(hba.block wr.heap.size (by simp)).trans Od.o;have j0:=(aa nx 0).trans rfl;have j1:=(aa nx 1).trans rfl;have j2:=(aa nx 2).trans rfl;have j3:=(aa nx 3).trans rfl;have j4:=(aa nx 4).trans rfl;have lY:=hd hba;have NX:=hd nx;clear hba nx;rw[show Sp.wG x.f0 x.f1=_ from KO.o.symm])|((go_at_call 46);(refine(KN.o _ _ g _ vL v1 v2 s qV qW A9 c9 (aY B0.o lY.o) (aC qg.o lY.o) AW.o.1 (Kd.bJ (Kd.aS Fh.o.reads _) lY.o)).mono ?_);rintro e wb⟨rfl,ek⟩;have lz:=(ek.block wr.heap.size (aj NX.o)).trans NX.o;have k0:=(aa lz 0).trans rfl;have k1:=(aa lz 1).trans rfl;have k2:=(aa lz 2).trans rfl;have k3:=(aa lz 3).trans rfl;have k4:=(aa lz 4).trans rfl;have cE:=hd ek;have Wt:=hd lz;clear ek lz;rw[<-zx.o])|((go_at_call 47);(refine((ST.o k _ _ g _ vL v1 v2 s qV qW A9 c9 (aY (aY B0.o lY.o) cE.o) (aC (aC qg.o lY.o) cE.o) AW.o (by have:=xU.o;omega) zx.o.symm (((Fh.o.up (dc Fg.o) (af (ay _ _) _)).up (dc qg.o) lY.o).up (dc (aC qg.o lY.o)) cE.o)).1).mono ?_);rintro e wc⟨rfl,qu,sY,m2,BS⟩;have M2:=hd m2;have S2:=hd BS;clear m2 BS;rw[<-pY.o]))
      have hrun:Sp.run E true code 0 (Sp.begin E)=((k:Int),14):=by
       rw[AX.o,pX.o,if_neg (by rw[qh.o];decide),qh.o]
      rw[hrun];go_ret2;exact⟨rfl,nM (aA (aA (aA bE.o bE.o.size (af (ay _ _) _)) (cG bE.o.size (by simp)) lY.o) (cG bE.o.size (by first|(have:=lY.o.size;simp at this;omega)|simp)) cE.o) (kD (aY (aY B0.o lY.o) cE.o) M2.o (dc (aC (aC qg.o lY.o) cE.o))) (by omega)⟩
     |false=>
      have qh:=hd (show s.dQ E true x=0 by unfold Sp.St.dQ;rw[<-zx.o,<-pY.o];rw[<-KO.o];rfl)
      go_wp2_with (first|((go_at_call 45);(refine(oW x.f0 x.f1 x.f2 x.f3 (.slice A9 x.f4.length c9) ⟨_,_,_,rfl⟩ _).mono ?_);rintro e wa⟨rfl,hba⟩;have nx:=(hba.block wr.heap.size (by simp)).trans Od.o;have j0:=(aa nx 0).trans rfl;have j1:=(aa nx 1).trans rfl;have j2:=(aa nx 2).trans rfl;have j3:=(aa nx 3).trans rfl;have j4:=(aa nx 4).trans rfl;have lY:=hd hba;have NX:=hd nx;clear hba nx;rw[show Sp.wG x.f0 x.f1=_ from KO.o.symm])|((go_at_call 46);(refine(KN.o _ _ g _ vL v1 v2 s qV qW A9 c9 (aY B0.o lY.o) (aC qg.o lY.o) AW.o.1 (Kd.bJ (Kd.aS Fh.o.reads _) lY.o)).mono ?_);rintro e wb⟨rfl,ek⟩;have lz:=(ek.block wr.heap.size (aj NX.o)).trans NX.o;have k0:=(aa lz 0).trans rfl;have k1:=(aa lz 1).trans rfl;have k2:=(aa lz 2).trans rfl;have k3:=(aa lz 3).trans rfl;have k4:=(aa lz 4).trans rfl;have cE:=hd ek;have Wt:=hd lz;clear ek lz;rw[<-zx.o])|((go_at_call 47);(refine((ST.o k _ _ g _ vL v1 v2 s qV qW A9 c9 (aY (aY B0.o lY.o) cE.o) (aC (aC qg.o lY.o) cE.o) AW.o (by have:=xU.o;omega) zx.o.symm (((Fh.o.up (dc Fg.o) (af (ay _ _) _)).up (dc qg.o) lY.o).up (dc (aC qg.o lY.o)) cE.o)).1).mono ?_);rintro e wc⟨rfl,qu,sY,m2,BS⟩;have M2:=hd m2;have S2:=hd BS;clear m2 BS;rw[<-pY.o]))
      go_roundw
      case rel=>exact⟨k+1,s.step E x,qu,sY,by omega,by go_num,S2,hd (nX (aY (aY B0.o lY.o) cE.o) M2.o (aC (aC qg.o lY.o) cE.o)),hd (ST.o k _ _ g _ vL v1 v2 s qV qW A9 c9 (aY (aY B0.o lY.o) cE.o) (aC (aC qg.o lY.o) cE.o) AW.o (by have:=xU.o;omega) zx.o.symm (((Fh.o.up (dc Fg.o) (af (ay _ _) _)).up (dc qg.o) lY.o).up (dc (aC qg.o lY.o)) cE.o)).2,hd pY.o.symm,hd (by rw[AX.o,pX.o,if_pos qh.o]),hd (nM (aA (aA (aA bE.o bE.o.size (af (ay _ _) _)) (cG bE.o.size (by simp)) lY.o) (cG bE.o.size (by first|(have:=lY.o.size;simp at this;omega)|simp)) cE.o) (kD (aY (aY B0.o lY.o) cE.o) M2.o (dc (aC (aC qg.o lY.o) cE.o))) (by omega))⟩
      case measure=>simp[intOf];omega
  ·obtain rfl:k=code.length:=by omega
   have hrun:=hd (show Sp.run E true code 0 (Sp.begin E)=(-1,0) by rw[AX.o,List.drop_length];rfl)
   go_wp2
   go_ret2;exact⟨by rw[hrun.o];rfl,bE.o⟩
theorem Df(M:bL)(cs:List Value)(j:Int)(w:World)(hM:bZ.K w M cs)(n1:M.f1.length<=1000000)(n2:M.f2.length<=1000000)(hs:fh M.f0)(h0:0<=j)(h1:j<M.f2.length)(t:ig)(ht:Sp.aM M ((M.f1.length:Int)+j)=some t)(lp:t.f0.length<=1000000)(l8:t.f1.length<=8)(ll:(aF M.f2 j).f1.length<=1000000)(lc:(aF M.f2 j).f2.length<=65536)
 (hKn: ∀k:Nat,k<(aF M.f2 j).f2.length->xT ⟨M,t.f0++(aF M.f2 j).f1,t⟩ (aO (aF M.f2 j).f2 (k:Int))) (Gp: ∀k:Nat,k<(aF M.f2 j).f2.length->eW ⟨M,t.f0++(aF M.f2 j).f1,t⟩ (aO (aF M.f2 j).f2 (k:Int))):
 Calls prog 21 #[.agg cs.toArray,.int .i64 j,.int .i64 2] w (pF (Sp.run ⟨M,t.f0++(aF M.f2 j).f1,t⟩ false (aF M.f2 j).f2 0 (Sp.begin ⟨M,t.f0++(aF M.f2 j).f1,t⟩)) w):=by
 obtain⟨A0,c0,A1,c1,A2,c2,A3,c3,A4,c4,A5,c5,A6,c6,A7,c7,rfl,l0,g0,l1,g1,l2,g2,-⟩:=aD hM;obtain⟨fd,B2,d2,B3,d3,rfl,e2,e3,e4,-,-,-,q5⟩:=ku g2 j h0 h1;have bI:=aR w _ e4;have Oc:=hd (fun(_:Unit)=>BR M _ j (w.alloc (.cells #[.slice A0 M.f0.length c0,.slice A1 M.f1.length c1,.slice (some fd) M.f2.length c2,.slice A3 M.f3.length c3,.slice A4 M.f4.length c4,.slice A5 M.f5.length c5,.slice A6 M.f6.length c6,.slice A7 M.f7.length c7] 37)) (Kd.dJ bZ (af (ay _ _) _) hM) n1 n2 hs h0 h1 t ht lp ll);obtain⟨E,hEq⟩: ∃E:Sp.Env,E=⟨M,t.f0++(aF M.f2 j).f1,t⟩:=⟨_,rfl⟩;obtain⟨code,hcd⟩:=ex ((aF M.f2 j).f2);rw[<-hEq]at Oc hKn Gp⊢;rw[<-hcd]at q5 e4 hKn Gp lc⊢;have XX:E.S.f1=t.f1:=by rw[hEq]
 have w3:Sp.within j 0 ((M.f2.length:Int)-1)=true:=by simp[Sp.within];omega
 have KM:=hd (show E.S.f1.length<=8 by rw[XX];exact l8);have Ro:=hd e4;have Jv:=hd q5;have Ws:=hd hKn;have HST:=hd Gp;have xU:=hd lc;clear e2 e3 e4 q5 g0 g1 g2 hM hs ht lp ll n1 l0 l1 l2 hcd hEq XX l8 hKn Gp
 go_enter func21,ntmps21
 go_wp2_with (first|((go_at_call 43);(refine(bq _ _ _).mono ?_);rintro e w'⟨rfl,rfl⟩)|((go_at_call 44);(with_reducible refine(Oc.o ()).mono ?_);rintro e W⟨g,vL,v1,v2,vT,vF,rfl,hb,hE,hS⟩;have x0:=(hb.block w.heap.size (by simp)).trans (dh w _);have y2:=(aa x0 2).trans rfl;have hsz:w.heap.size+1<=W.heap.size:=(by have:=hb.size;simpa using this);have HW:=hd (aA (af (ay _ _) _) (by simp) hb:Below w.heap.size w W);have e4:=(HW.o.cell (p:=⟨(fd.add (j.toNat*3)).block,(fd.add (j.toNat*3)).off+2,none⟩) bI).trans Ro.o;have Hi:=hd x0;have HE:=hd hE;have HS:=hd hS;clear hb hE hS x0))
 go_loopw [35] (fun i wr=> ∃(k:Nat) (s:Sp.St) (vT vF:Value),k<=code.length/\i= .int .i64 k/\Hid (aJ wr (w.heap.size+1) g (di vL v1 v2) ([.slice A0 M.f0.length c0,.slice A1 M.f1.length c1,.slice (some fd) M.f2.length c2,.slice A3 M.f3.length c3,.slice A4 M.f4.length c4,.slice A5 M.f5.length c5,.slice A6 M.f6.length c6,.slice A7 M.f7.length c7]++ [vL,v1,v2]) s vT vF)/\Hid (dO wr (w.heap.size+1) E [.slice A0 M.f0.length c0,.slice A1 M.f1.length c1,.slice (some fd) M.f2.length c2,.slice A3 M.f3.length c3,.slice A4 M.f4.length c4,.slice A5 M.f5.length c5,.slice A6 M.f6.length c6,.slice A7 M.f7.length c7] vL v1 v2)/\Hid (Sp.zv k s)/\Hid (s.bad=false)/\Hid (Sp.run E false code 0 (Sp.begin E)=Sp.run E false (code.drop k) k s)/\Hid (Below w.heap.size w wr)) (fun i _=>code.length-(intOf i).toNat)
 case atStart=>
  have hse:(w.alloc (.cells #[.slice A0 M.f0.length c0,.slice A1 M.f1.length c1,.slice (some fd) M.f2.length c2,.slice A3 M.f3.length c3,.slice A4 M.f4.length c4,.slice A5 M.f5.length c5,.slice A6 M.f6.length c6,.slice A7 M.f7.length c7] 37)).heap.size=w.heap.size+1:=by simp
  have h1:=HS.o;have h2:=HE.o;rw[hse]at h1 h2;exact⟨0,Sp.begin E,vT,vF,Nat.zero_le _,rfl,hd h1,hd h2,hd (zw E KM.o),hd rfl,hd rfl,HW⟩
 case round=>
  obtain⟨k,s,qV,qW,hk,rfl,oK,Fg,AW,HBD,AX,bE⟩:=hrel;clear HS HE Hi y2 e4;by_cases CI:k<code.length
  ·obtain⟨ad,A9,c9,hA,i0,i1,i2,i3,i4,-,q4⟩:=jF Jv.o (k:Int) (by omega) (by omega)
   have i0:=(bE.o.cell (aR _ _ i0)).trans i0;have i1:=(bE.o.cell (aR _ _ i1)).trans i1;have i2:=(bE.o.cell (aR _ _ i2)).trans i2;have i3:=(bE.o.cell (aR _ _ i3)).trans i3;have i4:=(bE.o.cell (aR _ _ i4)).trans i4;subst hA;rw[dF]at i0 i1 i2 i3 i4;have pX:=hd (Sp.Ff E false code k s CI);have KN:=hd (Ws.o k CI);have ST:=hd (HST.o k CI);obtain⟨x,hx⟩:=ex (aO code (k:Int));rw[<-hx]at i0 i1 i2 i3 i4 q4 pX KN ST;clear hx;have Fh:=hd (show gO (w.heap.size+1) wr A9 x.f4 from⟨w,by omega,bE.o,q4⟩);clear q4;obtain⟨bk,hbk⟩:=ex (s.known E x);obtain⟨bs,Ma⟩:=ex ((s.step E x).bad);obtain⟨br,hbr⟩:=ex (Sp.uz x);have zx:=hd hbk;have pY:=hd Ma;have KO:=hd hbr;clear hbk Ma hbr;have b0:aJ (wr.alloc (av x.f0 x.f1 x.f2 x.f3 (.slice A9 x.f4.length c9))) (w.heap.size+1) g (di vL v1 v2) ([.slice A0 M.f0.length c0,.slice A1 M.f1.length c1,.slice (some fd) M.f2.length c2,.slice A3 M.f3.length c3,.slice A4 M.f4.length c4,.slice A5 M.f5.length c5,.slice A6 M.f6.length c6,.slice A7 M.f7.length c7]++ [vL,v1,v2]) s qV qW:=aI oK.o _;have XY:=aC Fg.o (af (ay _ _) (av x.f0 x.f1 x.f2 x.f3 (.slice A9 x.f4.length c9)));have bx0:=dh wr (av x.f0 x.f1 x.f2 x.f3 (.slice A9 x.f4.length c9));have B0:=hd b0;have qg:=hd XY;have Od:=hd bx0;clear b0 XY bx0;cases bk with
   |false=>
    have qh:=hd (show s.dQ E false x=23 by unfold Sp.St.dQ;rw[<-zx.o];rfl)
    go_wp2_with (first|((go_at_call 46);(refine(KN.o _ _ g _ vL v1 v2 s qV qW A9 c9 B0.o qg.o AW.o.1 (Kd.aS Fh.o.reads _)).mono ?_);rintro e wb⟨rfl,ek⟩;have lz:=(ek.block wr.heap.size (aj Od.o)).trans Od.o;have k0:=(aa lz 0).trans rfl;have k1:=(aa lz 1).trans rfl;have k2:=(aa lz 2).trans rfl;have k3:=(aa lz 3).trans rfl;have k4:=(aa lz 4).trans rfl;have cE:=hd ek;have Wt:=hd lz;clear ek lz;rw[<-zx.o])|((go_at_call 47);(refine((ST.o k _ _ g _ vL v1 v2 s qV qW A9 c9 (aY B0.o cE.o) (aC qg.o cE.o) AW.o (by have:=xU.o;omega) zx.o.symm ((Fh.o.up (dc Fg.o) (af (ay _ _) _)).up (dc qg.o) cE.o)).1).mono ?_);rintro e wc⟨rfl,qu,sY,m2,BS⟩;have M2:=hd m2;have S2:=hd BS;clear m2 BS;rw[<-pY.o]))
    have hrun:Sp.run E false code 0 (Sp.begin E)=((k:Int),23):=by
     rw[AX.o,pX.o,if_neg (by rw[qh.o];decide),qh.o]
    rw[hrun];go_ret2;exact⟨rfl,aA (aA bE.o bE.o.size (af (ay _ _) _)) (cG bE.o.size (by first|(have:=lY.o.size;simp at this;omega)|simp)) cE.o⟩
   |true=>
    cases bs with
    |true=>
     have qh:=hd (show s.dQ E false x=14 by unfold Sp.St.dQ;rw[<-zx.o,<-pY.o];rfl)
     go_wp2_with (first|((go_at_call 46);(refine(KN.o _ _ g _ vL v1 v2 s qV qW A9 c9 B0.o qg.o AW.o.1 (Kd.aS Fh.o.reads _)).mono ?_);rintro e wb⟨rfl,ek⟩;have lz:=(ek.block wr.heap.size (aj Od.o)).trans Od.o;have k0:=(aa lz 0).trans rfl;have k1:=(aa lz 1).trans rfl;have k2:=(aa lz 2).trans rfl;have k3:=(aa lz 3).trans rfl;have k4:=(aa lz 4).trans rfl;have cE:=hd ek;have Wt:=hd lz;clear ek lz;rw[<-zx.o])|((go_at_call 47);(refine((ST.o k _ _ g _ vL v1 v2 s qV qW A9 c9 (aY B0.o cE.o) (aC qg.o cE.o) AW.o (by have:=xU.o;omega) zx.o.symm ((Fh.o.up (dc Fg.o) (af (ay _ _) _)).up (dc qg.o) cE.o)).1).mono ?_);rintro e wc⟨rfl,qu,sY,m2,BS⟩;have M2:=hd m2;have S2:=hd BS;clear m2 BS;rw[<-pY.o]))
     have hrun:Sp.run E false code 0 (Sp.begin E)=((k:Int),14):=by
      rw[AX.o,pX.o,if_neg (by rw[qh.o];decide),qh.o]
     rw[hrun];go_ret2;exact⟨rfl,nM (aA (aA bE.o bE.o.size (af (ay _ _) _)) (cG bE.o.size (by first|(have:=lY.o.size;simp at this;omega)|simp)) cE.o) (kD (aY B0.o cE.o) M2.o (dc (aC qg.o cE.o))) (by omega)⟩
    |false=>
     have qh:=hd (show s.dQ E false x=0 by unfold Sp.St.dQ;rw[<-zx.o,<-pY.o];rfl)
     go_wp2_with (first|((go_at_call 46);(refine(KN.o _ _ g _ vL v1 v2 s qV qW A9 c9 B0.o qg.o AW.o.1 (Kd.aS Fh.o.reads _)).mono ?_);rintro e wb⟨rfl,ek⟩;have lz:=(ek.block wr.heap.size (aj Od.o)).trans Od.o;have k0:=(aa lz 0).trans rfl;have k1:=(aa lz 1).trans rfl;have k2:=(aa lz 2).trans rfl;have k3:=(aa lz 3).trans rfl;have k4:=(aa lz 4).trans rfl;have cE:=hd ek;have Wt:=hd lz;clear ek lz;rw[<-zx.o])|((go_at_call 47);(refine((ST.o k _ _ g _ vL v1 v2 s qV qW A9 c9 (aY B0.o cE.o) (aC qg.o cE.o) AW.o (by have:=xU.o;omega) zx.o.symm ((Fh.o.up (dc Fg.o) (af (ay _ _) _)).up (dc qg.o) cE.o)).1).mono ?_);rintro e wc⟨rfl,qu,sY,m2,BS⟩;have M2:=hd m2;have S2:=hd BS;clear m2 BS;rw[<-pY.o]))
     go_roundw
     case rel=>exact⟨k+1,s.step E x,qu,sY,by omega,by go_num,S2,hd (nX (aY B0.o cE.o) M2.o (aC qg.o cE.o)),hd (ST.o k _ _ g _ vL v1 v2 s qV qW A9 c9 (aY B0.o cE.o) (aC qg.o cE.o) AW.o (by have:=xU.o;omega) zx.o.symm ((Fh.o.up (dc Fg.o) (af (ay _ _) _)).up (dc qg.o) cE.o)).2,hd pY.o.symm,hd (by rw[AX.o,pX.o,if_pos qh.o]),hd (nM (aA (aA bE.o bE.o.size (af (ay _ _) _)) (cG bE.o.size (by first|(have:=lY.o.size;simp at this;omega)|simp)) cE.o) (kD (aY B0.o cE.o) M2.o (dc (aC qg.o cE.o))) (by omega))⟩
     case measure=>simp[intOf];omega
  ·obtain rfl:k=code.length:=by omega
   have hrun:=hd (show Sp.run E false code 0 (Sp.begin E)=(-1,0) by rw[AX.o,List.drop_length];rfl)
   go_wp2
   go_ret2;exact⟨by rw[hrun.o];rfl,bE.o⟩
end Go.Proofs.YthehihjcpiadgaaGreat
end
namespace Go.Proofs.YthehihjcpiadgaaGreat
open Go.RowKit Go.Proofs.Wz.PrintWords Go.Proofs.Wz.bM
theorem cN(a m:Int):Sp.there a m=Sp.within a 0 (m-1):=by
 unfold Sp.there Sp.within;rw[Bool.eq_iff_iff];simp only[decide_eq_true_eq];omega
theorem au{a b:Int}(h: ¬a=b):(a==b)=false:=by simpa using h
theorem i6{a b:Int}(h:a=b):(a==b)=true:=by simpa using h
theorem RS(E:Sp.Env)(i:aW)(hs:fh E.M.f0)(n1:E.M.f1.length<=1000000)(n2:E.M.f2.length<=1000000)(f0: -2147483648<=i.f1)(f9:i.f1<=2147483647)(l4:i.f4.length<=1000000):xT E i:=by
 intro w base g cs vL v1 v2 s vT vF A c h hE hI hL;obtain⟨op,a,b,n,L⟩:=i;dsimp only at f0 f9 l4 hL⊢;cases hA:Sp.eD op with
 |true=>
  have hr:=(Sp.oU op).2 (by have:=of_decide_eq_true (show decide (0<Sp.mW op)=true from hA);omega);have hO:Sp.opens op=false:=by unfold Sp.opens Sp.within;exact jP (by omega)
  have e:s.known E ⟨op,a,b,n,L⟩=Sp.within a 0 ((E.M.f3.length:Int)-1):=by
   unfold Sp.St.known;dsimp only;rw[if_neg (by simp[hO]),if_pos hA,cN]
  rw[e];exact KJ w base g E cs vL v1 v2 s vT vF h hE hI a b n A L.length c op hA hO
 |false=>
  cases hO:Sp.opens op with
  |true=>
   have e:s.known E ⟨op,a,b,n,L⟩=(Sp.aQ E.M a).isSome:=by unfold Sp.St.known;dsimp only;rw[if_pos hO]
   rw[e];exact Hu w base g E cs vL v1 v2 s vT vF h hE hI a b n A L.length c op hA hO hs
  |false=>
   by_cases h12:op=12
   ·have e:s.known E ⟨op,a,b,n,L⟩=Sp.within a 0 ((s.F.length:Int)-1):=by unfold Sp.St.known;dsimp only;rw[if_neg (by simp[hO]),if_neg (by simp[hA]),if_pos (by omega)];rw[cN]
    rw[e];exact N6 w base g E cs vL v1 v2 s vT vF h hE hI a b n A L.length c op hA hO (i6 h12)
   by_cases sg:op=13
   ·have e:s.known E ⟨op,a,b,n,L⟩=Sp.within a 0 ((s.F.length:Int)-1):=by unfold Sp.St.known;dsimp only;rw[if_neg (by simp[hO]),if_neg (by simp[hA]),if_pos (by omega)];rw[cN]
    rw[e];exact N7 w base g E cs vL v1 v2 s vT vF h hE hI a b n A L.length c op hA hO (au h12) (i6 sg)
   by_cases mL:op=14
   ·have e:s.known E ⟨op,a,b,n,L⟩=(!L.any (fun n=> !Sp.within n 0 ((s.F.length:Int)-1))):=by unfold Sp.St.known;dsimp only;rw[if_neg (by simp[hO]),if_neg (by simp[hA]),if_neg (by omega),if_pos (by omega)];simp only[cN]
    rw[e];exact Ob w base g E cs vL v1 v2 s vT vF h hE hI a b n A L c hL l4 op hA hO (au h12) (au sg) (i6 mL)
   by_cases qp:op=16
   ·have e:s.known E ⟨op,a,b,n,L⟩=(Sp.aM E.M a).isSome:=by unfold Sp.St.known;dsimp only;rw[if_neg (by simp[hO]),if_neg (by simp[hA]),if_neg (by omega),if_neg (by omega),if_pos (by omega)]
    rw[e];exact N4 w base g E cs vL v1 v2 s vT vF h hE hI a b n A L.length c op hA hO hs n1 n2 f0 f9 (au h12) (au sg) (au mL) (i6 qp)
   by_cases vh:op=18
   ·have e:s.known E ⟨op,a,b,n,L⟩=(Sp.aM E.M a).isSome:=by unfold Sp.St.known;dsimp only;rw[if_neg (by simp[hO]),if_neg (by simp[hA]),if_neg (by omega),if_neg (by omega),if_pos (by omega)]
    rw[e];exact N5 w base g E cs vL v1 v2 s vT vF h hE hI a b n A L.length c op hA hO hs n1 n2 f0 f9 (au h12) (au sg) (au mL) (au qp) (i6 vh)
   by_cases AA:op=32
   ·have e:s.known E ⟨op,a,b,n,L⟩=Sp.within a 0 ((E.L.length:Int)-1):=by unfold Sp.St.known;dsimp only;rw[if_neg (by simp[hO]),if_neg (by simp[hA]),if_neg (by omega),if_neg (by omega),if_neg (by omega),if_pos (by omega)];rw[cN]
    rw[e];exact N8 w base g E cs vL v1 v2 s vT vF h hE hI a b n A L.length c op hA hO (au h12) (au sg) (au mL) (au qp) (au vh) (i6 AA)
   by_cases BI:op=33
   ·have e:s.known E ⟨op,a,b,n,L⟩=Sp.within a 0 ((E.L.length:Int)-1):=by unfold Sp.St.known;dsimp only;rw[if_neg (by simp[hO]),if_neg (by simp[hA]),if_neg (by omega),if_neg (by omega),if_neg (by omega),if_pos (by omega)];rw[cN]
    rw[e];exact N9 w base g E cs vL v1 v2 s vT vF h hE hI a b n A L.length c op hA hO (au h12) (au sg) (au mL) (au qp) (au vh) (au AA) (i6 BI)
   by_cases CS:op=34
   ·have e:s.known E ⟨op,a,b,n,L⟩=Sp.within a 0 ((E.L.length:Int)-1):=by unfold Sp.St.known;dsimp only;rw[if_neg (by simp[hO]),if_neg (by simp[hA]),if_neg (by omega),if_neg (by omega),if_neg (by omega),if_pos (by omega)];rw[cN]
    rw[e];exact Oa w base g E cs vL v1 v2 s vT vF h hE hI a b n A L.length c op hA hO (au h12) (au sg) (au mL) (au qp) (au vh) (au AA) (au BI) (i6 CS)
   by_cases DV:op=35
   ·have e:s.known E ⟨op,a,b,n,L⟩=Sp.within a 0 ((E.M.f4.length:Int)-1):=by unfold Sp.St.known;dsimp only;rw[if_neg (by simp[hO]),if_neg (by simp[hA]),if_neg (by omega),if_neg (by omega),if_neg (by omega),if_neg (by omega),if_pos (by omega)];rw[cN]
    rw[e];exact NV w base g E cs vL v1 v2 s vT vF h hE hI a b n A L.length c op hA hO (au h12) (au sg) (au mL) (au qp) (au vh) (au AA) (au BI) (au CS) (i6 DV)
   by_cases Ad:op=36
   ·have e:s.known E ⟨op,a,b,n,L⟩=Sp.within a 0 ((E.M.f4.length:Int)-1):=by unfold Sp.St.known;dsimp only;rw[if_neg (by simp[hO]),if_neg (by simp[hA]),if_neg (by omega),if_neg (by omega),if_neg (by omega),if_neg (by omega),if_pos (by omega)];rw[cN]
    rw[e];exact NW w base g E cs vL v1 v2 s vT vF h hE hI a b n A L.length c op hA hO (au h12) (au sg) (au mL) (au qp) (au vh) (au AA) (au BI) (au CS) (au DV) (i6 Ad)
   by_cases h63:op=63
   ·have e:s.known E ⟨op,a,b,n,L⟩=Sp.within a 0 ((E.M.f3.length:Int)-1):=by unfold Sp.St.known;dsimp only;rw[if_neg (by simp[hO]),if_neg (by simp[hA]),if_neg (by omega),if_neg (by omega),if_neg (by omega),if_neg (by omega),if_neg (by omega),if_pos (by omega)];rw[cN]
    rw[e];exact NY w base g E cs vL v1 v2 s vT vF h hE hI a b n A L.length c op hA hO (au h12) (au sg) (au mL) (au qp) (au vh) (au AA) (au BI) (au CS) (au DV) (au Ad) (i6 h63)
   by_cases G7:op=64
   ·have e:s.known E ⟨op,a,b,n,L⟩=Sp.within a 0 ((E.M.f3.length:Int)-1):=by unfold Sp.St.known;dsimp only;rw[if_neg (by simp[hO]),if_neg (by simp[hA]),if_neg (by omega),if_neg (by omega),if_neg (by omega),if_neg (by omega),if_neg (by omega),if_pos (by omega)];rw[cN]
    rw[e];exact NZ w base g E cs vL v1 v2 s vT vF h hE hI a b n A L.length c op hA hO (au h12) (au sg) (au mL) (au qp) (au vh) (au AA) (au BI) (au CS) (au DV) (au Ad) (au h63) (i6 G7)
   by_cases pn:op=64523
   ·have e:s.known E ⟨op,a,b,n,L⟩=Sp.within a 0 ((E.M.f3.length:Int)-1):=by unfold Sp.St.known;dsimp only;rw[if_neg (by simp[hO]),if_neg (by simp[hA]),if_neg (by omega),if_neg (by omega),if_neg (by omega),if_neg (by omega),if_neg (by omega),if_pos (by omega)];rw[cN]
    rw[e];exact Fc w base g E cs vL v1 v2 s vT vF h hE hI a b n A L.length c op hA hO (au h12) (au sg) (au mL) (au qp) (au vh) (au AA) (au BI) (au CS) (au DV) (au Ad) (au h63) (au G7) (i6 pn)
   by_cases qQ:op=64520
   ·have e:s.known E ⟨op,a,b,n,L⟩=(Sp.within a 0 ((E.M.f3.length:Int)-1)&&Sp.within b 0 ((E.M.f6.length:Int)-1)):=by unfold Sp.St.known;dsimp only;rw[if_neg (by simp[hO]),if_neg (by simp[hA]),if_neg (by omega),if_neg (by omega),if_neg (by omega),if_neg (by omega),if_neg (by omega),if_neg (by omega),if_pos (by omega)];rw[cN,cN]
    rw[e];cases wa:Sp.within a 0 ((E.M.f3.length:Int)-1)with
    |true=>rw[Bool.true_and];exact vJ w base g E cs vL v1 v2 s vT vF h hE hI a b n A L.length c op hA hO (au h12) (au sg) (au mL) (au qp) (au vh) (au AA) (au BI) (au CS) (au DV) (au Ad) (au h63) (au G7) (au pn) (i6 qQ) wa
    |false=>rw[Bool.false_and];exact uD w base g E cs vL v1 v2 s vT vF h hE hI a b n A L.length c op hA hO (au h12) (au sg) (au mL) (au qp) (au vh) (au AA) (au BI) (au CS) (au DV) (au Ad) (au h63) (au G7) (au pn) (i6 qQ) wa
   by_cases vA:op=64521
   ·have e:s.known E ⟨op,a,b,n,L⟩=Sp.within a 0 ((E.M.f6.length:Int)-1):=by unfold Sp.St.known;dsimp only;rw[if_neg (by simp[hO]),if_neg (by simp[hA]),if_neg (by omega),if_neg (by omega),if_neg (by omega),if_neg (by omega),if_neg (by omega),if_neg (by omega),if_neg (by omega),if_pos (by omega)];rw[cN]
    rw[e];exact Fe w base g E cs vL v1 v2 s vT vF h hE hI a b n A L.length c op hA hO (au h12) (au sg) (au mL) (au qp) (au vh) (au AA) (au BI) (au CS) (au DV) (au Ad) (au h63) (au G7) (au pn) (au qQ) (i6 vA)
   by_cases yS:op=64522
   ·have e:s.known E ⟨op,a,b,n,L⟩=(Sp.within a 0 ((E.M.f3.length:Int)-1)&&Sp.within b 0 ((E.M.f3.length:Int)-1)):=by unfold Sp.St.known;dsimp only;rw[if_neg (by simp[hO]),if_neg (by simp[hA]),if_neg (by omega),if_neg (by omega),if_neg (by omega),if_neg (by omega),if_neg (by omega),if_neg (by omega),if_neg (by omega),if_neg (by omega),if_pos (by omega)];rw[cN,cN]
    rw[e];cases wa:Sp.within a 0 ((E.M.f3.length:Int)-1)with
    |true=>rw[Bool.true_and];exact vK w base g E cs vL v1 v2 s vT vF h hE hI a b n A L.length c op hA hO (au h12) (au sg) (au mL) (au qp) (au vh) (au AA) (au BI) (au CS) (au DV) (au Ad) (au h63) (au G7) (au pn) (au qQ) (au vA) (i6 yS) wa
    |false=>rw[Bool.false_and];exact uE w base g E cs vL v1 v2 s vT vF h hE hI a b n A L.length c op hA hO (au h12) (au sg) (au mL) (au qp) (au vh) (au AA) (au BI) (au CS) (au DV) (au Ad) (au h63) (au G7) (au pn) (au qQ) (au vA) (i6 yS) wa
   have e:s.known E ⟨op,a,b,n,L⟩=true:=by unfold Sp.St.known;dsimp only;rw[if_neg (by simp[hO]),if_neg (by simp[hA]),if_neg (by omega),if_neg (by omega),if_neg (by omega),if_neg (by omega),if_neg (by omega),if_neg (by omega),if_neg (by omega),if_neg (by omega),if_neg (by omega)]
   rw[e];exact Hs w base g E cs vL v1 v2 s vT vF h hE hI a b n A L.length c op hA hO (au h12) (au sg) (au mL) (au qp) (au vh) (au AA) (au BI) (au CS) (au DV) (au Ad) (au h63) (au G7) (au pn) (au qQ) (au vA) (au yS)
end Go.Proofs.YthehihjcpiadgaaGreat
namespace Go.Proofs.YthehihjcpiadgaaGreat
open Go.RowKit Go.Proofs.Wz.PrintWords
namespace Sp
def bG(t n:Nat)(s:St):Prop:=cq s/\s.T.length<=t/\s.F.length<=n/\ ∀i:Int,0<=i->i<s.F.length->(bB s.F i).f1.f0.length<=8/\(bB s.F i).f1.f1.length<=8
theorem dS{k:Nat}{s:St}(h:zv k s):bG (8*k) (k+1) s:=h
theorem eB{k:Nat}{s:St}(h:bG (8*(k+1)) (k+2) s):zv (k+1) s:=h
theorem bG.mono{t n t' n':Nat}{s:St}(h:bG t n s)(ht:t<=t')(hn:n<=n'):bG t' n' s:=⟨h.1,by have:=h.2.1;omega,by have:=h.2.2.1;omega,h.2.2.2⟩
theorem bG.pop{t n:Nat}{s:St}(h:bG t n s)(l:List Int):bG t n (s.pop l):=
 ⟨iA h.1 l,cG (p9 s l) h.2.1,by rw[uA];exact h.2.2.1,by rw[uA];exact h.2.2.2⟩
theorem bG.any{t n:Nat}{s:St}(h:bG t n s):bG t n s.any.2:=
 ⟨qU h.1,cG (Jt s) h.2.1,by rw[Jr];exact h.2.2.1,by rw[Jr];exact h.2.2.2⟩
theorem bG.push{t n:Nat}{s:St}(h:bG t n s)(l:List Int)(m:Nat)(hm:l.length<=m)(hl:t+m<=1000000):bG (t+m) n (s.push l):=by
 obtain⟨⟨h1,h2,h3,h4,h5⟩,ht,hn,hf⟩:=h;refine⟨⟨h1,h2,by simp[St.push];omega,fun i h0 h9=>?_,h5⟩,by simp[St.push];omega,hn,hf⟩;have:=h4 i h0 h9;refine⟨this.1,?_⟩;simp only[St.push,List.length_append];have:=this.2;show(bB s.F i).f2<=_
 omega
theorem bG.err{t n:Nat}{s:St}(h:bG t n s)(b:Bool):bG t n (s.err b):=⟨ox h.1 _,h.2⟩
theorem bG.bad{t n:Nat}{s:St}(h:bG t n s)(b:Bool):bG t n ⟨s.T,s.F,b⟩:=⟨ox h.1 _,h.2⟩
theorem Oe(xs:List xB)(j:Nat)(f:xB)(i:Int)(h0:0<=i)(hj:j<xs.length):bB (xs.set j f) i=if i=(j:Int)then f else bB xs i:=by
 unfold bB;rw[gq,List.getElem?_set];by_cases e:i=(j:Int)
 ·subst e;simp[hj]
 ·rw[if_neg (by omega),if_neg e,gq]
theorem xV(xs:List xB)(j:Nat)(i:Int)(h:i<j)(h0:0<=i):bB (xs.take j) i=bB xs i:=by
 unfold bB;rw[gq,List.getElem?_take_of_lt (by omega),gq]
theorem xW(xs:List xB)(f:xB)(i:Int)(h0:0<=i)(h1:i<(xs.length:Int)+1):bB (xs++ [f]) i=if i=xs.length then f else bB xs i:=by
 unfold bB;by_cases e:i=(xs.length:Int)
 ·rw[if_pos e,gq,show i.toNat=xs.length by omega];simp
 ·rw[if_neg e,gq,List.getElem?_append_left (by omega),gq]
theorem zy{s:St}(h:cq s):0<=s.top.f2/\s.top.f2<=s.T.length:=by
 obtain⟨h1,h2,h3,h4,h5⟩:=h;exact h4 ((s.F.length:Int)-1) (by omega) (by omega)
theorem BU{s:St}(h:cq s)(i:Int)(h0:0<=i)(h1:i<s.F.length):(bB s.F i).f2<=s.top.f2:=by
 obtain⟨g1,g2,g3,g4,g5⟩:=h;exact g5 i ((s.F.length:Int)-1) h0 (by omega) (by omega)
theorem bG.cut{t n:Nat}{s:St}(h:bG t n s)(b:Bool):bG t n ⟨s.T.take s.top.f2.toNat,s.F,b⟩:=by
 have ht:=zy h.1;have hb:=fun i h0 h1=>BU h.1 i h0 h1
 obtain⟨⟨h1,h2,h3,h4,h5⟩,ht2,hn,hf⟩:=h;refine⟨⟨h1,h2,by simp only[List.length_take];omega,fun i h0 h9=>⟨(h4 i h0 h9).1,?_⟩,h5⟩,by simp only[List.length_take];omega,hn,hf⟩;have:=hb i h0 h9;simp only[List.length_take];omega
theorem bG.frame{t n:Nat}{s:St}(h:bG t n s)(f:xB)(hf2:f.f2=s.top.f2)(Wu:f.f1.f0.length<=8)(XZ:f.f1.f1.length<=8):bG t n ⟨s.T,s.F.set (s.F.length-1) f,s.bad⟩:=by
 have ht:s.top=bB s.F ((s.F.length:Int)-1):=rfl;obtain⟨⟨h1,h2,h3,h4,h5⟩,ht2,hn,hf⟩:=h
 have hh: ∀i:Int,0<=i->i<s.F.length->(bB (s.F.set (s.F.length-1) f) i).f2=(bB s.F i).f2:=fun i h0 h9=>by
  rw[Oe _ _ _ _ h0 (by omega)]
  split
  ·rename_i e
   rw[hf2,ht,e];congr 2;omega
  ·rfl
 refine⟨⟨by simpa using h1,by simpa using h2,h3,fun i h0 h9=>?_,fun i j h0 hij h9=>?_⟩,ht2,by simpa using hn,fun i h0 h9=>?_⟩
 ·simp only[List.length_set]at h9
  show 0<=(bB (s.F.set (s.F.length-1) f) i).f2/\_
  rw[hh i h0 h9];exact h4 i h0 h9
 ·simp only[List.length_set]at h9
  show(bB (s.F.set (s.F.length-1) f) i).f2<=(bB (s.F.set (s.F.length-1) f) j).f2
  rw[hh i h0 (by omega),hh j (by omega) h9];exact h5 i j h0 hij h9
 ·simp only[List.length_set]at h9
  show(bB (s.F.set (s.F.length-1) f) i).f1.f0.length<=8/\_
  rw[Oe _ _ _ _ h0 (by omega)]
  split
  ·exact⟨Wu,XZ⟩
  ·exact hf i h0 h9
theorem bG.Fi{t n:Nat}{s:St}(h:bG t n s):s.top.f1.f0.length<=8/\s.top.f1.f1.length<=8:=h.2.2.2 _ (by have:=h.1.1;omega) (by omega)
theorem bG.die{t n:Nat}{s:St}(h:bG t n s):bG t n s.die:=by
 have h1:=(bG.cut h s.bad);have h2:=bG.frame h1 ⟨s.top.f0,s.top.f1,s.top.f2,true⟩ rfl h.Fi.1 h.Fi.2;exact h2
theorem Dg(s:St)(l:List Int):(s.pop l).top=s.top:=by unfold St.top;rw[uA]
theorem KP(s:St):s.leave.top=s.top:=by unfold St.top St.leave;dsimp only;rw[uA]
theorem Jw{s:St}(h:cq s):s.leave.T=(s.pop s.top.f1.f1).T.take s.top.f2.toNat:=by
 unfold St.leave;dsimp only;have:=zy (iA h s.top.f1.f1);rw[Dg]at this;rw[Nat.min_eq_right (by omega)]
theorem bG.leave{t n:Nat}{s:St}(h:bG t n s):bG t n s.leave:=by
 have h1:=(h.pop s.top.f1.f1).cut (s.leave.bad)
 have e:s.leave=⟨(s.pop s.top.f1.f1).T.take (s.pop s.top.f1.f1).top.f2.toNat,(s.pop s.top.f1.f1).F,s.leave.bad⟩:=by
  rw[Dg,<-Jw h.1];rfl
 rw[e];exact h1
theorem bG.less{t n:Nat}{s:St}(h:bG t n s):bG t n s.less:=by
 unfold St.less
 split
 ·rename_i hl
  obtain⟨⟨h1,h2,h3,h4,h5⟩,ht2,hn,hf⟩:=h;refine⟨⟨by simp only[List.length_take];omega,by simp only[List.length_take];omega,h3,fun i h0 h9=>?_,fun i j h0 hij h9=>?_⟩,ht2,by simp only[List.length_take];omega,fun i h0 h9=>?_⟩
  ·simp only[List.length_take]at h9
   show 0<=(bB (s.F.take (s.F.length-1)) i).f2/\_
   rw[xV _ _ _ (by omega) h0];exact h4 i h0 (by omega)
  ·simp only[List.length_take]at h9
   show(bB (s.F.take (s.F.length-1)) i).f2<=(bB (s.F.take (s.F.length-1)) j).f2
   rw[xV _ _ _ (by omega) h0,xV _ _ _ (by omega) (by omega)];exact h5 i j h0 hij (by omega)
  ·simp only[List.length_take]at h9
   show(bB (s.F.take (s.F.length-1)) i).f1.f0.length<=8/\_
   rw[xV _ _ _ (by omega) h0];exact hf i h0 (by omega)
 ·exact h
theorem bG.end_{t n:Nat}{s:St}(h:bG t n s)(hl:t+8<=1000000):bG (t+8) n s.end_:=
 ((h.leave.err _).less).push _ 8 h.Fi.2 hl
theorem bG.other{t n:Nat}{s:St}(h:bG t n s)(hl:t+8<=1000000):bG (t+8) n s.other:=by
 have h2:=h.leave.frame ⟨5,s.top.f1,s.top.f2,false⟩ (by rw[KP]) h.Fi.1 h.Fi.2;exact h2.push _ 8 h.Fi.1 hl
theorem bG.X0{t n:Nat}{s:St}(h:bG t n s)(op:Int)(ty:ig)(hn:n+1<=100000)(Wu:ty.f0.length<=8)(XZ:ty.f1.length<=8):bG t (n+1) ⟨s.T,s.F++ [⟨op,ty,s.T.length,false⟩],s.bad⟩:=by
 obtain⟨⟨h1,h2,h3,h4,h5⟩,ht2,hn,hf⟩:=h;refine⟨⟨by simp,by simp;omega,h3,fun i h0 h9=>?_,fun i j h0 hij h9=>?_⟩,ht2,by simp;omega,fun i h0 h9=>?_⟩
 ·simp only[List.length_append,List.length_singleton]at h9
  show 0<=(bB (s.F++ [⟨op,ty,s.T.length,false⟩]) i).f2/\(bB (s.F++ [⟨op,ty,s.T.length,false⟩]) i).f2<=(s.T.length:Int)
  rw[xW _ _ _ h0 (by omega)]
  split
  ·dsimp only;omega
  ·exact h4 i h0 (by omega)
 ·simp only[List.length_append,List.length_singleton]at h9
  show(bB (s.F++ [⟨op,ty,s.T.length,false⟩]) i).f2<=(bB (s.F++ [⟨op,ty,s.T.length,false⟩]) j).f2
  rw[xW _ _ _ h0 (by omega),xW _ _ _ (by omega) (by omega)];by_cases ej:j=(s.F.length:Int)
  ·rw[if_pos ej]
   by_cases ei:i=(s.F.length:Int)
   ·rw[if_pos ei];exact Int.le_refl _
   ·rw[if_neg ei];exact(h4 i h0 (by omega)).2
  ·rw[if_neg ej,if_neg (by omega)];exact h5 i j h0 hij (by omega)
 ·simp only[List.length_append,List.length_singleton]at h9
  show(bB (s.F++ [⟨op,ty,s.T.length,false⟩]) i).f1.f0.length<=8/\_
  rw[xW _ _ _ h0 (by omega)]
  split
  ·exact⟨Wu,XZ⟩
  ·exact hf i h0 (by omega)
theorem bG.open_{t n:Nat}{s:St}(h:bG t n s)(op:Int)(ty:ig)(hl:t+8<=1000000)(hn:n+1<=100000)(Wu:ty.f0.length<=8)(XZ:ty.f1.length<=8):bG (t+8) (n+1) (s.open_ op ty):=by
 unfold St.open_
 have h1:bG t n ((if op=4 then s.pop [127]else s).pop ty.f0):=by
  refine bG.pop ?_ _
  split
  ·exact h.pop _
  ·exact h
 exact(h1.X0 op ty hn Wu XZ).push _ 8 Wu hl
theorem bG.chosen{t n:Nat}{s:St}(h:bG t n s)(hl:t+8<=1000000):bG (t+8) n s.chosen:=by
 unfold St.chosen;exact(((h.pop [127]).any.any).err _).push _ 8 (by simp) hl
theorem bG.plain{t n:Nat}{s:St}(h:bG t n s)(op:Int)(hl:t+8<=1000000):bG (t+8) n (s.plain op):=by
 have hp:=wP op;unfold St.plain
 (repeat' split)
 ·exact(h.pop _).mono (by omega) (aU _)
 ·exact(h.pop _).push _ 8 (by simp) hl
 ·exact h.push _ 8 (by simp) hl
 ·exact(h.pop _).push _ 8 (by omega) hl
 ·exact h.push _ 8 (by simp) hl
 ·exact(h.pop _).push _ 8 (by simp) hl
 ·exact(h.pop _).mono (by omega) (aU _)
 ·exact h.mono (by omega) (aU _)
end Sp
end Go.Proofs.YthehihjcpiadgaaGreat
namespace Go.Proofs.YthehihjcpiadgaaGreat
open Go.RowKit Go.Proofs.Wz.PrintWords Go.Proofs.Wz.bM
theorem Fj(E:Sp.Env)(i:aW)(h:i.f0=0):eW E i:=by
 intro k w base g cs vL v1 v2 s vT vF A c hS hE hI hk hkn hL;have e:s.step E i=s.die:=by unfold Sp.St.step;rw[if_pos h]
 rw[e];exact⟨UH w base g _ _ s.die vT vF i.f1 i.f2 i.f3 A _ c _ i.f0 h (kZ _ base g _ _ s vT vF (aI hS _) hI.1),Sp.eB ((Sp.bG.die (Sp.dS hI)).mono (by omega) (by omega))⟩
theorem BV(E:Sp.Env)(i:aW)(h:i.f0=26):eW E i:=by
 intro k w base g cs vL v1 v2 s vT vF A c hS hE hI hk hkn hL
 have e:s.step E i=s.any.2:=by
  unfold Sp.St.step;rw[h];rfl
 rw[e];exact⟨RH w base g _ _ s.any.2 vT vF i.f1 i.f2 i.f3 A _ c _ i.f0 h (pg _ base g _ _ s vT vF (aI hS _) hI.1),Sp.eB ((Sp.bG.any (Sp.dS hI)).mono (by omega) (by omega))⟩
theorem BW(E:Sp.Env)(i:aW)(h:i.f0=11):eW E i:=by
 intro k w base g cs vL v1 v2 s vT vF A c hS hE hI hk hkn hL
 have e:s.step E i=s.end_:=by
  unfold Sp.St.step;rw[h];rfl
 rw[e];have h8:=Sp.bG.leave (Sp.dS hI);have h9:=Sp.bG.Fi (Sp.dS hI);exact⟨Rx w base g _ _ s.end_ vT vF i.f1 i.f2 i.f3 A _ c _ i.f0 h (Hl _ base g _ _ s vT vF (aI hS _) hI.1 (by have:=h8.2.1;have:=h9.2;omega)),Sp.eB ((Sp.bG.end_ (Sp.dS hI) (by omega)).mono (by omega) (by omega))⟩
theorem uF(E:Sp.Env)(i:aW)(h0: ¬i.f0=0)(h2: ¬i.f0=2)(h3: ¬i.f0=3)(h4: ¬i.f0=4)(h5: ¬i.f0=5)(h11: ¬i.f0=11)(h12: ¬i.f0=12)(sg: ¬i.f0=13)(mL: ¬i.f0=14)(RT: ¬i.f0=15)(qp: ¬i.f0=16)(vh: ¬i.f0=18)(Tk: ¬i.f0=26)(X3: ¬i.f0=27)(AA: ¬i.f0=32)(BI: ¬i.f0=33)(CS: ¬i.f0=34)(DV: ¬i.f0=35)(Ad: ¬i.f0=36):eW E i:=by
 intro k w base g cs vL v1 v2 s vT vF A c hS hE hI hk hkn hL
 have e:s.step E i=s.plain i.f0:=by
  unfold Sp.St.step;rw[if_neg h0,if_neg (by simp only[Sp.opens,Sp.within,decide_eq_true_eq];omega),if_neg h5,if_neg h11,if_neg (by omega),if_neg (by omega),if_neg Tk,if_neg X3,if_neg (by omega)]
 rw[e];exact⟨KH w base g _ _ (s.plain i.f0) vT vF i.f1 i.f2 i.f3 A _ c _ i.f0 (au h0) (au h2) (au h3) (au h4) (au h5) (au h11) (au h12) (au sg) (au mL) (au RT) (au qp) (au vh) (au Tk) (au X3) (au AA) (au BI) (au CS) (au DV) (au Ad) (Db _ base g _ _ s vT vF (aI hS _) hI.1 (by have:=hI.2.1;omega) (by have:=dc hE;simp;omega) i.f0),Sp.eB ((Sp.bG.plain (Sp.dS hI) i.f0 (by omega)).mono (by omega) (by omega))⟩
end Go.Proofs.YthehihjcpiadgaaGreat
namespace Go.Proofs.YthehihjcpiadgaaGreat
open Go.Shelf
def Dh:Go.Shelf.Ren:=⟨fun|6=>81|15=>139|14=>138|28=>190|29=>191|20=>182|21=>183|22=>184|23=>185|24=>186|25=>187|26=>188|27=>189|46=>214|47=>215|48=>216|49=>217|50=>218|57=>223|n=>n,fun|22=>101|24=>151|25=>152|3=>3|39=>167|0=>0|53=>209|55=>22|4=>4|46=>203|45=>202|50=>176|5=>5|9=>9|66=>221|70=>225|76=>232|77=>233|n=>n,fun|n=>n⟩
theorem Fk:Go.Proofs.SlLaysF0.n6 prog Dh:= {
 mixed:=by kernel_rfl
 f6:=⟨Tryz.f81.name,by decide,func81.trans (congrArg some (by kernel_rfl))⟩
 f14:=⟨Tryz.f138.name,by decide,func138.trans (congrArg some (by kernel_rfl))⟩
 f15:=func139.trans (congrArg some (by kernel_rfl))
 f20:=⟨Tryz.f182.name,by decide,func182.trans (congrArg some (by kernel_rfl))⟩
 f21:=⟨Tryz.f183.name,by decide,func183.trans (congrArg some (by kernel_rfl))⟩
 f22:=⟨Tryz.f184.name,by decide,func184.trans (congrArg some (by kernel_rfl))⟩
 f23:=⟨Tryz.f185.name,by decide,func185.trans (congrArg some (by kernel_rfl))⟩
 f24:=⟨Tryz.f186.name,by decide,func186.trans (congrArg some (by kernel_rfl))⟩
 f25:=⟨Tryz.f187.name,by decide,func187.trans (congrArg some (by kernel_rfl))⟩
 f26:=⟨Tryz.f188.name,by decide,func188.trans (congrArg some (by kernel_rfl))⟩
 f27:=⟨Tryz.f189.name,by decide,func189.trans (congrArg some (by kernel_rfl))⟩
 f28:=func190.trans (congrArg some (by kernel_rfl))
 f29:=func191.trans (congrArg some (by kernel_rfl))
 f46:=⟨Tryz.f214.name,by decide,func214.trans (congrArg some (by kernel_rfl))⟩
 f47:=func215.trans (congrArg some (by kernel_rfl))
 f48:=func216.trans (congrArg some (by kernel_rfl))
 f49:=⟨Tryz.f217.name,by decide,func217.trans (congrArg some (by kernel_rfl))⟩
 f50:=⟨Tryz.f218.name,by decide,func218.trans (congrArg some (by kernel_rfl))⟩
 f57:=⟨Tryz.f223.name,by decide,func223.trans (congrArg some (by kernel_rfl))⟩
 t0:=underlying0
 a0:=Tryz.isAgg0
 z0:=Tryz.sizeOf0
 v0:=Tryz.zeroValue0
 t3:=underlying3
 a3:=Tryz.isAgg3
 z3:=Tryz.sizeOf3
 v3:=Tryz.zeroValue3
 t4:=underlying4
 a4:=Tryz.isAgg4
 z4:=Tryz.sizeOf4
 v4:=Tryz.zeroValue4
 t5:=underlying5
 a5:=Tryz.isAgg5
 z5:=Tryz.sizeOf5
 v5:=Tryz.zeroValue5
 t9:=underlying9
 a9:=Tryz.isAgg9
 z9:=Tryz.sizeOf9
 v9:=Tryz.zeroValue9
 t22:=underlying101
 a22:=Tryz.isAgg101
 z22:=Tryz.sizeOf101
 v22:=Tryz.zeroValue101
 t25:=underlying152
 a25:=Tryz.isAgg152
 z25:=Tryz.sizeOf152
 v25:=Tryz.zeroValue152
 t39:=underlying167
 a39:=Tryz.isAgg167
 z39:=Tryz.sizeOf167
 v39:=Tryz.zeroValue167
 t45:=underlying202
 a45:=Tryz.isAgg202
 z45:=Tryz.sizeOf202
 v45:=Tryz.zeroValue202
 t46:=underlying203
 a46:=Tryz.isAgg203
 z46:=Tryz.sizeOf203
 v46:=Tryz.zeroValue203
 t50:=underlying176
 a50:=Tryz.isAgg176
 z50:=Tryz.sizeOf176
 v50:=Tryz.zeroValue176
 t53:=underlying209
 a53:=Tryz.isAgg209
 z53:=Tryz.sizeOf209
 v53:=Tryz.zeroValue209
 t55:=underlying22
 a55:=Tryz.isAgg22
 z55:=Tryz.sizeOf22
 v55:=Tryz.zeroValue22
 t66:=underlying221
 a66:=Tryz.isAgg221
 z66:=Tryz.sizeOf221
 v66:=Tryz.zeroValue221
 t70:=underlying225
 a70:=Tryz.isAgg225
 z70:=Tryz.sizeOf225
 v70:=Tryz.zeroValue225
 t76:=underlying232
 a76:=Tryz.isAgg232
 z76:=Tryz.sizeOf232
 v76:=Tryz.zeroValue232
 t77:=underlying233
 a77:=Tryz.isAgg233
 z77:=Tryz.sizeOf233
 v77:=Tryz.zeroValue233}
end Go.Proofs.YthehihjcpiadgaaGreat
namespace Go.Proofs.YthehihjcpiadgaaGreat
open Go.RowKit Go.Proofs.Wz.PrintWords Go.Shelf Go.Sort Go.Lib
instance:Inhabited jb:=⟨su⟩
def kE(x:jb):List Value:= [.int .i64 x.f0,.int .i64 x.f1,.int .i64 x.f2]
def Di(x y:Int):Int:=if x<y then-1 else if y<x then 1 else 0
theorem KQ(x:Int)(w:World):Calls prog 140 #[.int .i64 x] w fun e w'=>e= .returned (.bool false)/\w=w':=by
 have h:(x !=x)=false:=by simp
 go_enter func140,ntmps140
 go_wp2
 go_ret
 first|exact⟨rfl,rfl⟩|exact⟨by simp,rfl⟩
theorem Fl(x y:Int)(w:World):Calls prog 83 #[.int .i64 x,.int .i64 y] w fun e w'=>e= .returned (.int .i64 (Di x y))/\w=w':=by
 have H:=hd (fun x w=>KQ x w);unfold Di
 go_enter func83,ntmps83
 go_wp2_with (first|(go_at_call 140;refine(H.o _ _).mono ?_;rintro e w'⟨rfl,rfl⟩))
 all_goals
  go_ret;refine⟨congrArg (fun b=>Ending.returned (.int .i64 b)) ?_,rfl⟩
  (repeat' split)<;>first|rfl|omega
theorem UM(x y:jb)(W:World):Calls prog 82 #[.agg (kE x).toArray,.agg (kE y).toArray] W fun e w'=>e= .returned (.int .i64 (Di x.f0 y.f0))/\ ∃q os',w'=grow (W.drewN q) os':=by
 have H:=hd (fun W'=>Fl x.f0 y.f0 W');unfold kE;generalize Di x.f0 y.f0=r at H⊢
 go_enter func82,ntmps82
 go_wp2_with (first|(go_at_call 83;refine(H.o _).mono ?_;rintro e w'⟨rfl,rfl⟩))
 go_ret;exact⟨rfl,0,_,by rw[alloc_eq_grow,alloc_eq_grow,grow_grow];rfl⟩
theorem Fm(blk off size:Nat)(w:World):CmpLays prog 82 #[] kE 3 (fun x y=>Di x.f0 y.f0) blk off size w:=fun _ _ _ _ x y=>UM x y _
theorem Hv(x y:jb):ltOf (fun x y:jb=>Di x.f0 y.f0) x y=decide (x.f0<y.f0):=by
 unfold ltOf Di;by_cases h1:x.f0<y.f0
 ·simp[h1]
 ·by_cases h2:y.f0<x.f0<;>simp[h1,h2]
theorem RU:SWO (ltOf fun x y:jb=>Di x.f0 y.f0) where
 irrefl x:=by rw[Hv];simp
 trans x y z h1 h2:=by rw[Hv]at *;simp at *;omega
 ntrans x y z h1 h2:=by rw[Hv]at *;simp at *;omega
theorem Fo{w:World}{base blk n cap:Nat}{ok:Nat->Prop}{xs:List jb}(h:kA w base ok (.slice (some ⟨blk,0,none⟩) n cap) xs):HoldsK kE 3 w blk 0 xs.toArray:=by
 have hn:=(Kd.bA h).1;intro t ht;rw[size_flatK]at ht;have hs:xs.toArray.size=xs.length:=by simp
 obtain⟨c,lJ,hM,hcc,oJ⟩:=Kd.kR h su ((t/3:Nat):Int) (by omega) (by omega);have hc:=nJ hM;subst hc;rw[dF]at hcc oJ;rw[get_flatK kE 3 _ t ht]
 have e:xs.toArray[t/3]! =xs.getD (t/3) su:=by
  rw[getElem!_pos _ _ (by omega)];simp[gq,MA (show t/3<xs.length by omega)]
 rw[e];have h3:wF.sz=3:=rfl;have hcell:=fun j u hu=>hcc j u hu
 have hfr:=oJ (t%3);rw[dF,h3]at *;have et:t/3*3+t%3=t:=by omega
 rw[et]at hfr;refine⟨?_,by rw[Nat.zero_add];exact hfr⟩;have bI:t%3<3:=Nat.mod_lt _ (by decide)
 have:=hcell (t%3) ((kE (xs.getD (t/3) su))[t%3]!) (by
  have:t%3=0\/t%3=1\/t%3=2:=by omega
  rcases this with h|h|h<;>rw[h]<;>rfl)
 rw[et]at this;rw[Nat.zero_add];exact this
theorem Fp{w:World}{g n off:Nat}{os:Array Obj}(d:Array jb):w.grownBy (sortWorldK kE 3 w g off n d os) (some g):=by
 refine⟨rfl,rfl,rfl,size_sortWorldK_c kE 3 w g off n d os,fun k hk hne=>?_⟩;have UN:k≠g:=fun e=>hne (by rw[e])
 simp[sortWorldK,putRowK,putRow,mapBlock,grow,Sort.ahead,Array.getElem?_append,Array.getElem?_modify,Array.getElem_modify,hk,UN,Ne.symm UN]
theorem Hx(w:World)(base:Nat)(ok:Nat->Prop)(v:Value)(xs:List jb)(h:kA w base ok v xs)(hl:xs.length<=1000000):
 Calls prog 81 #[v,.func (.func 82) #[] #[]] w fun e w'=>e= .returned (.tuple #[])/\w.grownBy w' v.ownBlock:=by
 rcases Nat.eq_zero_or_pos xs.length with h0|hp
 ·obtain⟨A,c,rfl⟩:=Kd.ai h
  rw[h0];refine(AnyF.slices_SortFunc_none Fk A c (.func (.func 82) #[] #[]) w).mono ?_;rintro e w'⟨rfl,rfl⟩;exact⟨rfl,World.grownBy.refl _ _⟩
 ·obtain⟨gb,cap,rfl,hb,bI,-⟩:=Kd.qz h hp
  have hs:xs.toArray.size=xs.length:=by simp
  have hcon:=AnyQ.slices_SortFunc Fk 3 Tryz.isAgg151 Tryz.sizeOf151 kE (fun _=>rfl) (fun x v hv=>by simp[kE]at hv;rcases hv with rfl|rfl|rfl<;>rfl) (fun x y=>Di x.f0 y.f0) RU 82 #[] gb 0 cap xs.toArray w (enters_of func82 (by kernel_rfl) rfl) (Fm gb 0 xs.toArray.size w) (Fo h) bI (by rw[hs];omega);rw[hs]at hcon;refine hcon.mono ?_;rintro e w'⟨rfl,d',n,os,-,-,rfl⟩;exact⟨rfl,by have:=Fp (w:=w) (g:=gb) (n:=n) (off:=0) (os:=os) d';simpa[Value.ownBlock]using this⟩
end Go.Proofs.YthehihjcpiadgaaGreat
section
namespace Go.Proofs.YthehihjcpiadgaaGreat
open Go.RowKit Go.Proofs.Wz.PrintWords
namespace Sp
def zA(code:List aW):Nat->Option yK
 |0=>some ⟨[],[],0⟩
 |k+1=>(zA code k).bind (fo code k)
def eO(code:List aW):Int:=if code.length=0 then 12 else match zA code code.length with|none=>12|some s=>if 64<s.deep then 26 else 0
theorem KR{code:List aW}{k:Nat}(h:zA code k=none): ∀n,k<=n->zA code n=none:=by
 intro n hn;induction n with
 |zero=>obtain rfl:k=0:=by omega
        exact h
 |succ n ih=>
  by_cases hk:k=n+1
  ·rw[<-hk];exact h
  ·unfold zA;rw[ih (by omega)];rfl
theorem KS(code:List aW):yL code 0 ⟨[],[],0⟩:=⟨by simp,by simp,by simp,by simp,fun j h0 h1=>by simp at h1;omega⟩
theorem AY{code:List aW}{k:Nat}(hk:k<=code.length)(h:zA code k=none):eO code=12:=by
 unfold eO;rw[KR h _ hk]
 split<;>rfl
theorem AZ{code:List aW}{s:yK}(hp:0<code.length)(h:zA code code.length=some s):eO code=if 64<s.deep then 26 else 0:=by
 unfold eO;rw[if_neg (by omega),h]
end Sp
def X4(n:Int)(w:World)(e:Ending)(w':World):Prop:=(∃v,e= .returned (.tuple #[v,.int .i64 n]))/\Below w.heap.size w w'
theorem Fq{w0 w w':World}{v:Value}(h:Below w0.heap.size w0 w)(hg:w.grownBy w' v.ownBlock)(hv: ∀k,v.ownBlock=some k->w0.heap.size<=k):Below w0.heap.size w0 w':=
 h.grown hg h.size (fun k hk=>hv k hk)
theorem Fs(A:Option Addr)(c:Nat)(code:List aW)(w:World)(hC:bW.C w A code.length code)(hl:code.length<=65536):Calls prog 38 #[.slice A code.length c] w (X4 (Sp.eO code) w):=by
 have HC:=hd hC;clear hC;by_cases h0:code.length=0
 ·have e0:Sp.eO code=12:=by unfold Sp.eO;rw[if_pos h0]
  rw[e0,h0]
  go_enter func38,ntmps38
  go_wp2
  refine bodyPost_ret (v:=_) (by simp[results,results38,go_sem]<;>rfl) rfl ?_;exact⟨⟨_,rfl⟩,af (ay _ _) _⟩
 ·have hz:((code.length:Int)==0)=false:=beq_eq_false_iff_ne.mpr (by omega)
  go_enter func38,ntmps38
  go_wp2
  go_loopw [13] (fun i wr=> ∃(k:Nat) (s:Sp.yK) (vo vd:Value),k<=code.length/\i= .int .i64 k/\Hid (mZ wr w.heap.size w.heap.size s vo vd)/\Hid (Sp.yL code k s)/\Hid (Sp.zA code k=some s)/\Hid (Below w.heap.size w wr)) (fun i _=>code.length-(intOf i).toNat)
  case atStart=>exact⟨0,⟨[],[],0⟩,.slice none 0 0,.slice none 0 0,by omega,rfl,hd ⟨dh w _,aU _,Kd.fS _ _ _ _ _,Kd.fS _ _ _ _ _⟩,hd (Sp.KS code),hd rfl,hd (af (ay _ _) _)⟩
  case round=>
   obtain⟨k,s,vo,vd,hk,rfl,HM,HI,HR,HB⟩:=hrel;rename_i wr _;by_cases bI:k<code.length
   ·have HS:=hd (G3 w wr HB.o A c code HC.o k bI hl w.heap.size s vo vd HM.o HI.o)
    cases hst:Sp.fo code k s with
    |none=>
     rw[hst]at HS;have e0:Sp.eO code=12:=Sp.AY (k:=k+1) (by omega) (by unfold Sp.zA;rw[HR.o];exact hst);rw[e0];clear hst e0
     go_wp2_with (first|(go_at_call 80;refine HS.o.mono ?_;rintro e w'⟨rfl,hb,-⟩;have bw:=hd hb;clear hb))
     refine bodyPost_ret (v:=_) (by simp[results,results38,go_sem]<;>rfl) rfl ?_;exact⟨⟨_,rfl⟩,bw.o⟩
    |some s2=>
     rw[hst]at HS;have HI2:=hd (Sp.Ki bI HI.o hst);have ia:Hid (Sp.zA code (k+1)=some s2):=hd (by unfold Sp.zA;rw[HR.o];exact hst);clear hst
     go_wp2_with (first|(go_at_call 80;refine HS.o.mono ?_;rintro e w'⟨rfl,hb,hn⟩;have bw:=hd hb;have HN:=hd hn;clear hb hn))
     obtain⟨vo2,vd2,hm2⟩:=HN.o s2 rfl
     go_roundw
     case rel=>exact⟨k+1,s2,vo2,vd2,by omega,by go_num,hd hm2,HI2,ia,bw⟩
     case measure=>simp[intOf];omega
   ·have Wp:k=code.length:=by omega
    subst Wp;have e0:=hd (Sp.AZ (by omega) HR.o);obtain⟨hg0,hbg,hro,hrd⟩:=HM.o;have c1:wr.cell? ⟨w.heap.size,1,none⟩=some vd:=(aa hg0 1).trans rfl;have c2:wr.cell? ⟨w.heap.size,2,none⟩=some (.int .i64 s.deep):=(aa hg0 2).trans rfl;have nC:=aj hg0;have hd2:s.d.length<=1000000:=by have:=HI.o.2.1;omega
    obtain⟨Q,kd,rfl⟩:=Kd.ai hrd;have HS:=hd (Hx wr w.heap.size _ _ s.d hrd hd2);have HG:=hd hg0;have pX:=hd hrd;clear hg0 hro hrd;by_cases Tl:64<s.deep
    ·have E:=hd (show Sp.eO code=26 from by rw[e0.o,if_pos Tl])
     go_wp2
     refine bodyPost_ret (v:=_) (by simp[results,results38,go_sem]<;>rfl) rfl ?_;exact⟨⟨_,by rw[E.o]⟩,HB.o⟩
    ·have E:=hd (show Sp.eO code=0 from by rw[e0.o,if_neg Tl])
     go_wp2_with (first|(go_at_call 81;refine HS.o.mono ?_;rintro e w'⟨rfl,hg⟩;have d1:w'.cell? ⟨w.heap.size,1,none⟩=some (.slice Q s.d.length kd):=hg.cell c1 (Kd.uX pX.o (fun k hk=>hk.1));have X5:=hd (Fq HB.o hg (Kd.iW pX.o));clear hg))
     refine bodyPost_ret (v:=_) (by simp[results,results38,go_sem]<;>rfl) rfl ?_;exact⟨⟨_,by rw[E.o]⟩,X5.o⟩
end Go.Proofs.YthehihjcpiadgaaGreat
end
