import Derived.Test.YthehihjcpiadgaaGreatCheckMadeK2
import Derived.Test.YthehihjcpiadgaaGreatCheckMadeLB
set_option maxRecDepth 100000
set_option maxHeartbeats 0
set_option linter.all false
open Go.Proofs.Tryz
namespace Go.Proofs.YthehihjcpiadgaaGreat
open Go.RowKit Go.Proofs.Wz.PrintWords Go.Proofs.Wz.bM
theorem oD(op:Int)(w:World):Calls prog 19 #[.int .i64 op] w (CR (Sp.fB op) (Sp.fR op) (Sp.gH op) w):=by
 cases hn:Sp.fB op with
 |false=>have:=uj op w hn;rwa[hn]at this
 |true=>have:=uk op w _ rfl hn;rwa[hn]at this
def Vp(w:World)(e:Ending)(w':World):Prop:= ∃v xs,e= .returned v/\cO w' w.heap.size v xs/\0<xs.length/\xs.length<=1000/\Below w.heap.size w w'
theorem SA{W:World}{n m:Nat}{xs:List Int}(h:W.heap[n]? =some (.cells (encs (Value.int .i64) xs).toArray 3 (0,0)))(hm:xs.length<=1000000)(e:m=xs.length):(Kd.int .i64).C W (some ⟨n,0,none⟩) m xs:=by subst e;exact(Kd.bA (dW h (Nat.zero_le _) (fN hm))).2.2
theorem Pe(w:World):Calls prog 107 #[] w (Vp w):=by
 go_enter func107,ntmps107
 go_wp2_with fail
 refine jk 24 (fun d u W=> ∃(k:Nat) (v:Value) (xs:List Int),d+k=128/\u 1=v/\u 2= .int .i64 ((69+k:Nat):Int)/\xs.length<=k/\Hid (cO W w.heap.size v xs)/\Hid (Below w.heap.size w W)) 128 rfl rfl ⟨0,_,[],rfl,rfl,rfl,by simp,hd (Kd.fS _ _ _ _ _),hd (ay _ _)⟩ ?_;intro d u W2 q hI hq;obtain⟨k,v,xs,hk,h1,h2,hx,ia,bw⟩:=hI;obtain⟨P2,k2,e2⟩:=Kd.ai ia.o;rw[e2]at h1 ia;clear e2 v;obtain⟨m,hm⟩:=ex (69+k);rw[<-hm]at h2;simp only[List.range,List.range.loop,List.map_cons,List.map_nil,h1,h2]at hq;subst hq;clear h1 h2;have HX:=hd (show xs.length<=k/\k<=128 from⟨hx,by omega⟩);by_cases bI:k<128
 ·have g1:((m:Int)<=196):=by omega
  have HK:=hd (show d-1<d/\d-1+(k+1)=128 from⟨by omega,by omega⟩);have HM:=hd hm;have bm:m<=4611686018427387904:=by omega
  have ew:=hd ((uh m bm).trans (by rw[hm];rfl:((m+1:Nat):Int)=((69+(k+1):Nat):Int)));clear hk hm hx bI bm
  go_wp2_with fail
  clear g1;refine(oD (m:Int) W2).mono ?_;rintro e W3⟨v1,v2,rfl,n1,n2,hb⟩;have cC:=hd (aA bw.o bw.o.size hb);have HR3:=hd (Kd.cM ia.o hb);clear n1 n2 hb;cases Sp.fB (m:Int)with
  |false=>
   have ew:=ew.o
   go_wp2_with fail
   exact⟨by first|trivial|rfl,by first|trivial|rfl,d-1,HK.o.1,k+1,_,xs,HK.o.2,rfl,congrArg (Value.int .i64) ew,Nat.le_succ_of_le HX.o.1,HR3,cC⟩
  |true=>
   have xZ:w.heap.size<=W3.heap.size:=cC.o.size;have uN:(xs.length+1)*8<=140737488355328:=by have:=HX.o;omega
   go_wp2_with (first|(at_builtin;(refine Kd.fc (Kd.int .i64) (w0:=w) w.heap.size rfl (.tmp 17) (.tmp 19) 23 3 (.int .i64 0) 8 rfl underlying23 cQ rfl (dG 0) (dG 7) (.slice P2 xs.length k2) xs (m:Int) [.int .i64 m] (fun _=>True) (fun k=>some k≠(Value.slice P2 xs.length k2).ownBlock) rfl rfl rfl (fun _ hk=>⟨trivial,hk⟩) (fun _ _=>trivial) HR3.o cC.o xZ uN ?_);intro v9 u9 hR hB hG hat;have od:=hd hR;have iZ:=hd hB;have ew:=ew.o;clear hR hB hG hat xZ uN))
   exact⟨by first|trivial|rfl,by first|trivial|rfl,d-1,HK.o.1,k+1,v9,xs++ [(m:Int)],HK.o.2,rfl,congrArg (Value.int .i64) ew,(by have:=HX.o;simp;omega),od,iZ⟩
 ·have g1: ¬((m:Int)<=196):=by omega
  clear hk hm hx bI;have xZ:w.heap.size<=(W2.alloc (.cells #[.int .i64 64514,.int .i64 64515,.int .i64 64518,.int .i64 64519,.int .i64 192,.int .i64 193,.int .i64 194,.int .i64 195,.int .i64 196,.int .i64 64514,.int .i64 64518] 3)).heap.size:=by have:=bw.o.size;simp;omega
  have uN:(xs.length+11)*8<=140737488355328:=by have:=HX.o;omega
  have hlc:=SA (xs:= [64514,64515,64518,64519,192,193,194,195,196,64514,64518]) (m:=11) (dh W2 (.cells #[.int .i64 64514,.int .i64 64515,.int .i64 64518,.int .i64 64519,.int .i64 192,.int .i64 193,.int .i64 194,.int .i64 195,.int .i64 196,.int .i64 64514,.int .i64 64518] 3)) (by simp) rfl
  go_wp2_with (first|(at_builtin;(refine Kd.fF (Kd.int .i64) (w0:=w) w.heap.size rfl (.tmp 21) (.tmp 22) 23 3 (.int .i64 0) 8 rfl underlying23 cQ rfl (dG 0) (dG 7) (.slice P2 xs.length k2) xs [64514,64515,64518,64519,192,193,194,195,196,64514,64518] (some ⟨W2.heap.size,0,none⟩) 11 11 (fun _=>True) (fun _=>False) rfl rfl (Kd.aZ ia.o _) hlc (fun _ _ h=>h) (fun _ h=>h.elim) (fun _ _=>trivial) (af bw.o _) xZ uN ?_);intro v9 u9 hR hB hG hat;have od:=hd hR;have iZ:=hd hB;clear hR hB hG hat xZ uN hlc))
  go_ret;exact⟨_,_,rfl,od.o,by simp,by have:=HX.o;simp;omega,iZ.o⟩
def Pt(c:Int)(height:Nat)(x y:fT):Prop:=height<=y.s.length/\y.left<=x.left/\0<=y.left/\(y.code.length:Int)+y.s.length+200*y.left<=x.code.length+x.s.length+200*x.left+c
def oF(R:World->Prop)(p:GP)(n:Nat)(R':World->Prop)(p':GP):Prop:=(∀W,R' W->R W)/\(∃v,p'= {p with vL:=v})/\lR R' p' n
theorem oF.refl{R:World->Prop}{p:GP}{n:Nat}(h:lR R p n):oF R p n R p:=⟨fun _ h=>h,⟨p.vL,rfl⟩,h⟩
theorem oF.trans{R R1 R2:World->Prop}{p p1 p2:GP}{n:Nat}(h:oF R p n R1 p1)(k:oF R1 p1 n R2 p2):oF R p n R2 p2:=by
 obtain⟨a,⟨v,rfl⟩,b⟩:=h;obtain⟨c,⟨u,rfl⟩,d⟩:=k;exact⟨fun W hW=>a W (c W hW),⟨u,rfl⟩,d⟩
def YS(R:World->Prop)(p:GP)(n:Nat)(r:Value)(f:fT->Prop)(e:Ending)(w':World):Prop:=e= .returned r/\ ∃R' p' y vS vC,oF R p n R' p'/\f y/\aG R' w' p' y vS vC
def Ip(JL:Int):Prop:= ∀(R:World->Prop) (w:World) (p:GP) (x:fT) (vS vC:Value) (M:bL) (L:List Int) (S:ig) (n:Nat) (height:Nat),aG R w p x vS vC->dH R p->kf R p M L S->jq M L S->lR R p n->height<=x.s.length->x.left=JL->0<=JL->(x.code.length:Int)+x.s.length+200*JL+200<=900000->
 Calls prog 112 #[.pointer (some ⟨p.g,0,none⟩),.int .i64 height] w (YS R p n (.tuple #[]) (Pt 200 height x))
def Pf(R:World->Prop)(p:GP)(n:Nat)(height:Nat)(x:fT)(e:Ending)(w':World):Prop:= ∃b,e= .returned (.bool b)/\ ∃R' p' y vS vC,oF R p n R' p'/\Pt 200 height x y/\aG R' w' p' y vS vC
theorem Pg(op:Int):(Sp.fR op).length<=2:=by unfold Sp.fR;(repeat' split)<;>simp
theorem Ph(op:Int):(Sp.gH op).length<=1:=by unfold Sp.gH;split<;>simp
theorem SC{R:World->Prop}{w:World}{p:GP}{x:fT}{vS vC:Value}(h:aG R w p x vS vC)(hT:dH R p){M:bL}{L:List Int}{S:ig}(hE:kf R p M L S)(hM:jq M L S){n:Nat}(vW:lR R p n)(height:Nat)(hh:height<=x.s.length)(h0:0<=x.left)(hs:(x.code.length:Int)+x.s.length+200*x.left+200<=900000)(YT:Ip x.left):Calls prog 56 #[.pointer (some ⟨p.g,0,none⟩),.int .i64 height] w (Pf R p n height x):=by
 obtain⟨W0,rfl⟩:=ex w;obtain⟨x0,rfl⟩:=ex x;obtain⟨Du,rfl⟩:=ex vS;obtain⟨Cc,rfl⟩:=ex vC;have cn:=hd h;have HT:=hd hT;clear h hT;have HE:=hd hE;obtain⟨w0,A0,c0,A1,c1,A2,c2,A3,c3,A4,c4,A5,c5,A6,c6,A7,c7,AL,cL,AS,cS,AR,cR,iR,Cf,Cg⟩:=hE;have iL:=hd iR;have OY:=hd Cf;have Af:=hd Cg;clear iR Cf Cg;have gZ:=hd hM;have Gq:=hd vW;have qw:=hd (oF.refl vW);have DB:=hd h0;have HB:=hd (show x0.code.length+x0.s.length+500<=1000000 by omega);have cE:=hd hs;have HH:=hd hh;have HBC:=hd YT;clear hM vW h0 hs hh YT;have y0:=(aa cn.o.1 0).trans (jU _ _ _ _)
 go_enter func56,ntmps56
 go_wp2_with fail
 refine(bK cn.o HT.o 16 (by decide) (by decide)).mono ?_;rintro e W1⟨r1,q1,Dv,Dw,rfl,h1⟩;obtain⟨x1,Bd,Be,rfl,rfl,bE,fP⟩:=Ae h1;clear h1;clear y0;have oK:=hd (show height+0<=x1.s.length/\x1.code.length+x1.s.length<=x0.code.length+x0.s.length+0/\x1.left=x0.left by have:=HH.o;have u:=fP.o;unfold Up at u;omega);have qp:(r1=0\/r1=1\/r1=2\/r1=3)\/r1=4\/r1=5\/r1=6\/(r1=7\/r1=8)\/r1=9\/(r1=10\/r1=11)\/r1=12\/r1=13\/r1=14\/r1=15:=by omega
 clear Dv Dw;rcases qp with h|h|h|h|h|h|h|h|h|h|h
 ·skip
  rcases h with rfl|rfl|rfl|rfl
  all_goals
   go_wp2_with fail
   refine(Pe W1).mono ?_;rintro e Wo⟨v,xs,rfl,ho,o1,o2,hb⟩;obtain⟨Ao,co,rfl⟩:=Kd.ai ho;have hfz:Fz Wo (jJ p Bd Be) (fun V=>bf V Ao xs):=zP ho (fun k hk hown=>by have:=Kd.iW ho k hk;have:=bE.o.iC hown;omega);have h2:=(bE.o.below hb).and hfz;have y0:=(aa h2.1 0).trans (jU _ _ _ _);have OX:=hd (And.intro o1 o2);clear ho hfz hb o1 o2
   go_wp2_with fail
   clear y0;refine(bK h2 (HT.o.weak (fun V h=>h.1)) (xs.length:Int) (by have:=OX.o;omega) (by have:=OX.o;omega)).mono ?_;rintro e W2⟨r2,q2,r0,r9,rfl,h3⟩;obtain⟨ad,hA,hq⟩:=Kd.fQ h3.get.2 r2 r0 r9;subst hA;obtain⟨x2,hx2⟩:=ex (fT.mk x1.s x1.code x1.left q2);rw[<-hx2]at h3;have bw:=hd (h3.weak (fun V h=>h.1));have iM:=hd (show height+0<=x2.s.length/\x2.code.length+x2.s.length<=x0.code.length+x0.s.length+0/\x2.left=x0.left by have:=oK.o;subst hx2;exact this);clear h3 hx2 h2;obtain⟨op,hop⟩:=ex (rd xs r2);rw[<-hop]at hq;clear hop
   go_wp2_with fail
   clear hq r0 r9;refine(oD op W2).mono ?_;rintro e Wn⟨v1,v2,rfl,n1,n2,hb⟩;obtain⟨A9,c9,rfl⟩:=Kd.ai n1;obtain⟨i7,c10,rfl⟩:=Kd.ai n2;have f1:Fz Wn (jJ p Bd Be) (fun V=>bf V A9 (Sp.fR op)):=zP n1 (fun k hk hown=>by have:=Kd.iW n1 k hk;have:=bw.o.iC hown;omega);have f2:Fz Wn (jJ p Bd Be) (fun V=>bf V i7 (Sp.gH op)):=zP n2 (fun k hk hown=>by have:=Kd.iW n2 k hk;have:=bw.o.iC hown;omega);have h4:=hd (((bw.o.below hb).and f1).and f2);have NP:=hd (And.intro (Pg op) (Ph op));clear n1 n2 f1 f2 hb
   go_wp2_with fail
   refine(jo h4.o (HT.o.weak (fun V h=>h.1.1)) (HE.o.weak (fun V h=>h.1.1)) (by have:=gZ.o.hL;omega) (by have:=gZ.o.Bg;omega) (A9) (c9) (Sp.fR op) (fun V hV=>hV.1.2) (by have:=NP.o;omega) height (by have:=HB.o;have:=HH.o;have:=iM.o;omega) (by have:=HB.o;have:=HH.o;have:=iM.o;omega) (by have:=HB.o;have:=HH.o;have:=iM.o;omega)).mono ?_;rintro e W3⟨rfl,x3,qi,nZ,nu,h3⟩;have cC:=hd h3;have qY:=hd (show height+(Sp.fR op).length<=x3.s.length/\x3.code.length+x3.s.length<=x0.code.length+x0.s.length+40/\x3.left=x0.left by have:=iM.o;have:=HH.o;have:=NP.o;unfold Nd at nu;omega);clear h3 nu
   go_wp2_with fail
   refine(bY cC.o _ _ _ _ (by have:=HB.o;have:=HH.o;have:=qY.o;omega)).mono ?_;rintro e W4⟨rfl,x4,yc,rV,oz,h4⟩;have bP:=hd h4;have gX:=hd (show Up 0 1 x3 x4 from oz);clear h4 oz;have uC:=hd (show height+(Sp.fR op).length<=x4.s.length/\x4.code.length+x4.s.length<=x0.code.length+x0.s.length+41/\x4.left=x0.left by have:=qY.o;have u:=gX.o;unfold Up at u;omega)
   go_wp2_with fail
   refine(lQ bP.o (HT.o.weak (fun V h=>h.1.1)) A9 (Sp.fR op).length c9 (by have:=uC.o;omega) i7 c10 (Sp.gH op) (fun V hV=>hV.2) (by have:=NP.o;omega) (by have:=HB.o;have:=HH.o;have:=uC.o;omega)).mono ?_;rintro e W5⟨rfl,x5,ye,uW,pR,h5⟩;have gI:=hd (h5.weak (fun V h=>h.1.1));have C9:=hd (show height+0<=x5.s.length/\x5.code.length+x5.s.length<=x0.code.length+x0.s.length+60/\x5.left=x0.left by have:=uC.o;have:=NP.o;unfold Sw at pR;omega);clear h5 pR
   go_wp2_with fail
   go_ret;exact⟨true,rfl,R,p,x5,_,_,qw.o,(by have:=C9.o;have:=DB.o;exact⟨by omega,by omega,by omega,by omega⟩),gI.o⟩
 ·skip
  subst h;have hb:=bE.o.box #[.int .i64 127,.int .i64 126,.int .i64 124] 3;have y0:=(aa hb.1 0).trans (jU _ _ _ _)
  go_wp2_with fail
  clear y0;refine(bK hb (HT.o.weak (fun W hW=>hW.1)) 3 (by decide) (by decide)).mono ?_;rintro e W2⟨r2,q2,r0,r1,rfl,h2⟩;have hq:=(aa h2.get.2 r2.toNat).trans (pQ [127,126,124] r2.toNat (by simp;omega));obtain⟨x2,hx2⟩:=ex (fT.mk x1.s x1.code x1.left q2);rw[<-hx2]at h2;have bw:=hd (h2.weak (fun W hW=>hW.1));have ep:=hd (show Up 0 0 x1 x2 by subst hx2;exact⟨rfl,rfl,rfl⟩);clear h2 hx2 hb;obtain⟨Bf,rfl⟩:=ex Bd;obtain⟨yb,rfl⟩:=ex Be;obtain⟨v2,hv2⟩:=ex (([127,126,124]:List Int)[r2.toNat]?.getD 0);rw[<-hv2]at hq;clear hv2;have iM:=hd (show height+0<=x2.s.length/\x2.code.length+x2.s.length<=x0.code.length+x0.s.length+0/\x2.left=x0.left by have:=oK.o;have u:=ep.o;unfold Up at u;omega)
  go_wp2_with fail
  clear hq r0 r1;refine(j7 bw.o HT.o HE.o (by have:=gZ.o.hL;omega) (by have:=gZ.o.Bg;omega) v2 (by have:=HB.o;have:=HH.o;have:=iM.o;omega) (by have:=HB.o;have:=HH.o;have:=iM.o;omega)).mono ?_;rintro e W3⟨rfl,x3,qi,nZ,nu,h3⟩;have cC:=hd h3;have gu:=hd (show Up 1 1 x2 x3 from nu);clear h3 nu;have qY:=hd (show height+1<=x3.s.length/\x3.code.length+x3.s.length<=x0.code.length+x0.s.length+2/\x3.left=x0.left by have:=iM.o;have u:=gu.o;unfold Up at u;omega)
  go_wp2_with fail
  go_ret;exact⟨true,rfl,R,p,x3,_,_,qw.o,(by have:=qY.o;have:=DB.o;exact⟨by omega,by omega,by omega,by omega⟩),cC.o⟩
 ·skip
  subst h;have y9:=gy bE.o iL.o 9 8;by_cases hz:0<L.length
  ·have g1:((L.length:Int)>0):=by omega
   have HZ:=hd (show 0<L.length/\L.length<=1000 from⟨hz,gZ.o.hL⟩);clear hz
   go_wp2_with fail
   clear y9 g1;have y0:=(aa bE.o.1 0).trans (jU _ _ _ _);have y9:=gy bE.o iL.o 9 8;refine st 11 (fun w'=>w'.cell? ⟨p.g,0,none⟩=some (.pointer (some ⟨p.tb,0,none⟩))/\w'.cell? ⟨p.g,9,none⟩=some (.slice AL L.length cL)) [] ⟨y0,y9⟩ (fun ag=>?_);refine cZ 0 97 1 98 2 99 ?_;refine tk 3 100 ag ?_;refine cZ 4 101 5 102 6 103 ?_;refine tk 7 104 ag ?_;refine pu 8 105 ?_;refine on 9 (some 106) (fun K hK=>?_);refine ge (bK (bE.o.drewN 1) HT.o (L.length:Int) (by have:=HZ.o;omega) (by have:=HZ.o;omega)) ?_;rintro e W2⟨r2,q2,D9,FT,rfl,h2⟩;obtain⟨x2,bw,ep⟩:=Mf h2;clear h2;refine⟨_,rfl,?_⟩;refine hK.o _ _ ⟨((aa bw.o.1 0).trans (jU _ _ _ _)),((gy bw.o iL.o 9 8))⟩ (fun ag=>?_);clear hK K;refine nm ?_;refine pu 10 10 ?_;refine dn ?_;clear y0 y9;obtain⟨Bf,rfl⟩:=ex Bd;obtain⟨yb,rfl⟩:=ex Be;have iM:=hd (show height+0<=x2.s.length/\x2.code.length+x2.s.length<=x0.code.length+x0.s.length+0/\x2.left=x0.left by have:=oK.o;have u:=ep.o;unfold Up at u;omega);obtain⟨ad,hA,hq⟩:=Kd.fQ (Af.o _ bw.o.get).2.1 r2 D9 FT;subst hA;obtain⟨t,ht⟩:=ex (rd L r2);rw[<-ht]at hq;have ia:=hd (And.intro D9 FT);have HTT:=hd ht;clear ht;have y9:=gy bw.o iL.o 9 8
   go_wp2_with fail
   clear y9 hq D9 FT;have hb:=bw.o.box #[.int .i64 t] 3;refine(jo hb (HT.o.weak (fun V h=>h.1)) (HE.o.weak (fun V h=>h.1)) (by have:=gZ.o.hL;omega) (by have:=gZ.o.Bg;omega) (some ⟨W2.heap.size,0,none⟩) (1) ([t]) (fun V hV=>FZ (xs:= [t]) hV.2 (by simp)) (by simp) height (by have:=HB.o;have:=HH.o;have:=iM.o;omega) (by have:=HB.o;have:=HH.o;have:=iM.o;omega) (by have:=HB.o;have:=HH.o;have:=iM.o;omega)).mono ?_;rintro e W3⟨rfl,x3,qi,nZ,nu,h3⟩;have cC:=hd (h3.weak (fun V h=>h.1));have qY:=hd (show height+1<=x3.s.length/\x3.code.length+x3.s.length<=x0.code.length+x0.s.length+40/\x3.left=x0.left by have:=iM.o;have:=HH.o;unfold Nd at nu;simp only[List.length_cons,List.length_nil]at nu;omega);clear h3 nu hb;have y0:=(aa cC.o.1 0).trans (jU _ _ _ _)
   go_wp2_with fail
   refine(bK cC.o HT.o 2 (by decide) (by decide)).mono ?_;rintro e W4⟨r4,q4,rr4,rs4,rfl,h4⟩;obtain⟨x4,yc,rV,rfl,rfl,bP,gX⟩:=Ae h4;clear h4;have uC:=hd (show height+1<=x4.s.length/\x4.code.length+x4.s.length<=x0.code.length+x0.s.length+40/\x4.left=x0.left by have:=qY.o;have u:=gX.o;unfold Up at u;omega);clear y0;by_cases hz:r4=0
   ·have g2:(r4==0)=true:=by simp[hz]
    clear hz
    go_wp2_with fail
    refine(bY bP.o _ _ _ _ (by have:=HB.o;have:=HH.o;have:=uC.o;omega)).mono ?_;rintro e W5⟨rfl,x5,ye,uW,pR,h5⟩;have gI:=hd h5;have kI:=hd (show Up 0 1 x4 x5 from pR);clear h5 pR;have C9:=hd (show height+1<=x5.s.length/\x5.code.length+x5.s.length<=x0.code.length+x0.s.length+41/\x5.left=x0.left by have:=uC.o;have u:=kI.o;unfold Up at u;omega)
    go_wp2_with fail
    go_ret;exact⟨true,rfl,R,p,x5,_,_,qw.o,(by have:=C9.o;have:=DB.o;exact⟨by omega,by omega,by omega,by omega⟩),gI.o⟩
   ·have g2:(r4==0)=false:=by simpa using hz
    clear hz
    go_wp2_with fail
    refine(bY bP.o _ _ _ _ (by have:=HB.o;have:=HH.o;have:=uC.o;omega)).mono ?_;rintro e W5⟨rfl,x5,ye,uW,pR,h5⟩;have gI:=hd h5;have kI:=hd (show Up 0 1 x4 x5 from pR);clear h5 pR;have C9:=hd (show height+1<=x5.s.length/\x5.code.length+x5.s.length<=x0.code.length+x0.s.length+41/\x5.left=x0.left by have:=uC.o;have u:=kI.o;unfold Up at u;omega);obtain⟨bd,hA,hq⟩:=Kd.fQ (Af.o _ gI.o.get).2.1 r2 ia.o.1 ia.o.2;injection hA with hA;subst hA;rw[<-HTT.o]at hq;have y9:=gy gI.o iL.o 9 8;have D9:=ia.o.1;have FT:=ia.o.2
    go_wp2_with fail
    clear y9 hq D9 FT;refine(lQ (gI.o.alloc _) HT.o _ 1 1 (by have:=HB.o;have:=HH.o;have:=C9.o;omega) none 0 [] (fun W hW=>JK W) (by decide) (by have:=HB.o;have:=HH.o;have:=C9.o;omega)).mono ?_;rintro e W6⟨rfl,x6,O7,O8,DA,h6⟩;have oa:=hd h6;have YU:=hd (show height+0<=x6.s.length/\x6.code.length+x6.s.length<=x0.code.length+x0.s.length+41/\x6.left=x0.left by have:=C9.o;unfold Sw at DA;simp only[List.length_nil]at DA;omega);clear h6 DA
    go_wp2_with fail
    go_ret;exact⟨true,rfl,R,p,x6,_,_,qw.o,(by have:=YU.o;have:=DB.o;exact⟨by omega,by omega,by omega,by omega⟩),oa.o⟩
  ·have g1: ¬((L.length:Int)>0):=by omega
   clear hz
   go_wp2_with fail
   go_ret;exact⟨true,rfl,R,p,x1,_,_,qw.o,(by have:=oK.o;have:=DB.o;exact⟨by omega,by omega,by omega,by omega⟩),bE.o⟩
 ·skip
  subst h;have y0:=(aa bE.o.1 0).trans (jU _ _ _ _)
  go_wp2_with fail
  refine(bK bE.o HT.o 3 (by decide) (by decide)).mono ?_;rintro e W2⟨r2,q2,D9,FT,rfl,h2⟩;obtain⟨x2,Bf,yb,rfl,rfl,bw,ep⟩:=Ae h2;clear h2;have iM:=hd (show height+0<=x2.s.length/\x2.code.length+x2.s.length<=x0.code.length+x0.s.length+0/\x2.left=x0.left by have:=oK.o;have u:=ep.o;unfold Up at u;omega);clear y0;obtain⟨ad,hA,hq,-⟩:=qG (wH (fun _ _=>ML) (Ce OY.o) (Af.o _ bw.o.get).1) r2 D9 (by have:=gZ.o.hG;omega);have i1:r2<(M.f4.length:Int):=by have:=gZ.o.hG;omega
  obtain⟨t,ht⟩:=ex ((dg M.f4 r2).f0);rw[<-ht]at hq;clear ht;have y5:=((gy bw.o iL.o 5 4)).trans (show some (Value.slice A4 M.f4.length c4)=some (.slice (some ad) M.f4.length c4) by rw[hA]);clear hA
  go_wp2_with fail
  clear y5 hq i1 D9 FT;have hb:=bw.o.box #[.int .i64 t] 3;refine(jo hb (HT.o.weak (fun V h=>h.1)) (HE.o.weak (fun V h=>h.1)) (by have:=gZ.o.hL;omega) (by have:=gZ.o.Bg;omega) (some ⟨W2.heap.size,0,none⟩) (1) ([t]) (fun V hV=>FZ (xs:= [t]) hV.2 (by simp)) (by simp) height (by have:=HB.o;have:=HH.o;have:=iM.o;omega) (by have:=HB.o;have:=HH.o;have:=iM.o;omega) (by have:=HB.o;have:=HH.o;have:=iM.o;omega)).mono ?_;rintro e W3⟨rfl,x3,qi,nZ,nu,h3⟩;have cC:=hd (h3.weak (fun V h=>h.1));have qY:=hd (show height+1<=x3.s.length/\x3.code.length+x3.s.length<=x0.code.length+x0.s.length+40/\x3.left=x0.left by have:=iM.o;have:=HH.o;unfold Nd at nu;simp only[List.length_cons,List.length_nil]at nu;omega);clear h3 nu hb
  go_wp2_with fail
  refine(bY cC.o _ _ _ _ (by have:=HB.o;have:=HH.o;have:=qY.o;omega)).mono ?_;rintro e W4⟨rfl,x4,yc,rV,oz,h4⟩;have bP:=hd h4;have gX:=hd (show Up 0 1 x3 x4 from oz);clear h4 oz;have uC:=hd (show height+1<=x4.s.length/\x4.code.length+x4.s.length<=x0.code.length+x0.s.length+41/\x4.left=x0.left by have:=qY.o;have u:=gX.o;unfold Up at u;omega)
  go_wp2_with fail
  refine(lQ (bP.o.alloc _) HT.o _ 1 1 (by have:=HB.o;have:=HH.o;have:=uC.o;omega) none 0 [] (fun W hW=>JK W) (by decide) (by have:=HB.o;have:=HH.o;have:=uC.o;omega)).mono ?_;rintro e W5⟨rfl,x5,ye,uW,pR,h5⟩;have gI:=hd h5;have C9:=hd (show height+0<=x5.s.length/\x5.code.length+x5.s.length<=x0.code.length+x0.s.length+41/\x5.left=x0.left by have:=uC.o;unfold Sw at pR;simp only[List.length_nil]at pR;omega);clear h5 pR
  go_wp2_with fail
  go_ret;exact⟨true,rfl,R,p,x5,_,_,qw.o,(by have:=C9.o;have:=DB.o;exact⟨by omega,by omega,by omega,by omega⟩),gI.o⟩
 ·skip
  rcases h with rfl|rfl
  all_goals
   go_wp2_with fail
   refine(Im bE.o HT.o HE.o gZ.o height (by have:=HB.o;have:=HH.o;have:=oK.o;omega) (by have:=HB.o;have:=HH.o;have:=oK.o;omega)).mono ?_;rintro e W2⟨rfl,y,DZ,D8,hu,h9⟩
   go_wp2_with fail
   go_ret;exact⟨true,rfl,R,p,y,_,_,qw.o,(by have:=oK.o;have:=DB.o;have:=HH.o;unfold On at hu;exact⟨by omega,by omega,by omega,by omega⟩),h9⟩
 ·subst h
  go_wp2_with fail
  refine(O9 bE.o HT.o HE.o gZ.o height (by have:=HB.o;have:=HH.o;have:=oK.o;omega) (by have:=HB.o;have:=HH.o;have:=oK.o;omega)).mono ?_;rintro e W2⟨rfl,y,DZ,D8,hu,h9⟩
  go_wp2_with fail
  go_ret;exact⟨true,rfl,R,p,y,_,_,qw.o,(by have:=oK.o;have:=DB.o;have:=HH.o;unfold On at hu;exact⟨by omega,by omega,by omega,by omega⟩),h9⟩
 ·skip
  rcases h with rfl|rfl
  all_goals
   go_wp2_with fail
   refine(HBC.o _ _ _ _ _ _ _ _ _ _ height bE.o HT.o HE.o gZ.o Gq.o (by have:=oK.o;omega) (by have:=oK.o;omega) DB.o (by have:=oK.o;have:=cE.o;omega)).mono ?_;rintro e W2⟨rfl,R2,p2,y,DZ,D8,hsm,hu,h9⟩
   go_wp2_with fail
   go_ret;exact⟨true,rfl,R2,p2,y,_,_,hsm,(by have:=oK.o;unfold Pt at hu;exact⟨by omega,by omega,by omega,by omega⟩),h9⟩
 ·subst h
  go_wp2_with fail
  refine(O5 bE.o HT.o HE.o gZ.o height (by have:=HB.o;have:=HH.o;have:=oK.o;omega) (by have:=HB.o;have:=HH.o;have:=oK.o;omega)).mono ?_;rintro e W2⟨rfl,y,DZ,D8,hu,h9⟩
  go_wp2_with fail
  go_ret;exact⟨true,rfl,R,p,y,_,_,qw.o,(by have:=oK.o;have:=DB.o;have:=HH.o;unfold On at hu;exact⟨by omega,by omega,by omega,by omega⟩),h9⟩
 ·subst h
  go_wp2_with fail
  refine(LD bE.o HT.o HE.o gZ.o Gq.o height (by have:=HB.o;have:=HH.o;have:=oK.o;omega) (by have:=HB.o;have:=HH.o;have:=oK.o;omega)).mono ?_;rintro e W2⟨b,rfl,y,DZ,D8,hu,h9⟩
  go_wp2_with fail
  go_ret;exact⟨b,rfl,R,p,y,_,_,qw.o,(by have:=oK.o;have:=DB.o;have:=HH.o;unfold On at hu;exact⟨by omega,by omega,by omega,by omega⟩),h9⟩
 ·subst h
  go_wp2_with fail
  refine(Dy bE.o HT.o HE.o gZ.o Gq.o height (by have:=HB.o;have:=HH.o;have:=oK.o;omega) (by have:=HB.o;have:=HH.o;have:=oK.o;omega)).mono ?_;rintro e W2⟨rfl,y,DZ,D8,hu,h9⟩
  go_wp2_with fail
  go_ret;exact⟨true,rfl,R,p,y,_,_,qw.o,(by have:=oK.o;have:=DB.o;have:=HH.o;unfold On at hu;exact⟨by omega,by omega,by omega,by omega⟩),h9⟩
 ·skip
  subst h;have hb:=bE.o.box #[.int .i64 127,.int .i64 126,.int .i64 124] 3;have y0:=(aa hb.1 0).trans (jU _ _ _ _)
  go_wp2_with fail
  clear y0;refine(bK hb (HT.o.weak (fun W hW=>hW.1)) 3 (by decide) (by decide)).mono ?_;rintro e W2⟨r2,q2,r0,r1,rfl,h2⟩;have hq:=(aa h2.get.2 r2.toNat).trans (pQ [127,126,124] r2.toNat (by simp;omega));obtain⟨x2,hx2⟩:=ex (fT.mk x1.s x1.code x1.left q2);rw[<-hx2]at h2;have bw:=hd (h2.weak (fun W hW=>hW.1));have ep:=hd (show Up 0 0 x1 x2 by subst hx2;exact⟨rfl,rfl,rfl⟩);clear h2 hx2 hb;obtain⟨Bf,rfl⟩:=ex Bd;obtain⟨yb,rfl⟩:=ex Be;obtain⟨v2,hv2⟩:=ex (([127,126,124]:List Int)[r2.toNat]?.getD 0);rw[<-hv2]at hq;clear hv2;have iM:=hd (show height+0<=x2.s.length/\x2.code.length+x2.s.length<=x0.code.length+x0.s.length+0/\x2.left=x0.left by have:=oK.o;have u:=ep.o;unfold Up at u;omega)
  go_wp2_with fail
  clear hq r0 r1;have hb:=bw.o.box #[.int .i64 v2,.int .i64 v2,.int .i64 127] 3;refine(jo hb (HT.o.weak (fun V h=>h.1)) (HE.o.weak (fun V h=>h.1)) (by have:=gZ.o.hL;omega) (by have:=gZ.o.Bg;omega) (some ⟨W2.heap.size,0,none⟩) (3) ([v2,v2,127]) (fun V hV=>FZ (xs:= [v2,v2,127]) hV.2 (by simp)) (by simp) height (by have:=HB.o;have:=HH.o;have:=iM.o;omega) (by have:=HB.o;have:=HH.o;have:=iM.o;omega) (by have:=HB.o;have:=HH.o;have:=iM.o;omega)).mono ?_;rintro e W3⟨rfl,x3,qi,nZ,nu,h3⟩;have cC:=hd (h3.weak (fun V h=>h.1));have qY:=hd (show height+3<=x3.s.length/\x3.code.length+x3.s.length<=x0.code.length+x0.s.length+40/\x3.left=x0.left by have:=iM.o;have:=HH.o;unfold Nd at nu;simp only[List.length_cons,List.length_nil]at nu;omega);clear h3 nu hb
  go_wp2_with fail
  refine(bY cC.o _ _ _ _ (by have:=HB.o;have:=HH.o;have:=qY.o;omega)).mono ?_;rintro e W4⟨rfl,x4,yc,rV,oz,h4⟩;have bP:=hd h4;have gX:=hd (show Up 0 1 x3 x4 from oz);clear h4 oz;have uC:=hd (show height+3<=x4.s.length/\x4.code.length+x4.s.length<=x0.code.length+x0.s.length+41/\x4.left=x0.left by have:=qY.o;have u:=gX.o;unfold Up at u;omega)
  go_wp2_with fail
  have hb:=(bP.o.alloc (.cells #[.int .i64 v2,.int .i64 v2,.int .i64 127] 3)).box #[.int .i64 v2] 3;have es:(W4.alloc (.cells #[.int .i64 v2,.int .i64 v2,.int .i64 127] 3)).heap.size=W4.heap.size+1:=by simp
  rw[es]at hb;refine(lQ hb (HT.o.weak (fun W hW=>hW.1)) _ 3 3 (by have:=HB.o;have:=HH.o;have:=uC.o;omega) (some ⟨W4.heap.size+1,0,none⟩) 1 [v2] (fun W hW=>FZ (xs:= [v2]) hW.2 (by simp)) (by simp) (by have:=HB.o;have:=HH.o;have:=uC.o;omega)).mono ?_;rintro e W5⟨rfl,x5,ye,uW,pR,h5⟩;have gI:=hd (h5.weak (fun W hW=>hW.1));have C9:=hd (show height+0<=x5.s.length/\x5.code.length+x5.s.length<=x0.code.length+x0.s.length+60/\x5.left=x0.left by have:=uC.o;unfold Sw at pR;simp only[List.length_cons,List.length_nil]at pR;omega);clear h5 pR hb es
  go_wp2_with fail
  go_ret;exact⟨true,rfl,R,p,x5,_,_,qw.o,(by have:=C9.o;have:=DB.o;exact⟨by omega,by omega,by omega,by omega⟩),gI.o⟩
def YV(JL:Int):Prop:= ∀(R:World->Prop) (w:World) (p:GP) (x:fT) (vS vC:Value) (M:bL) (L:List Int) (S:ig) (n:Nat) (height:Nat),aG R w p x vS vC->dH R p->kf R p M L S->jq M L S->lR R p n->height<=x.s.length->x.left=JL->0<=JL->(x.code.length:Int)+x.s.length+200*JL+200<=900000->
 Calls prog 56 #[.pointer (some ⟨p.g,0,none⟩),.int .i64 height] w (Pf R p n height x)
theorem DC{JL:Int}(h:Ip JL):YV JL:=fun R w p x vS vC M L S n height hg hT hE hM hL hh hl h0 hs=>by
 subst hl;exact SC hg hT hE hM hL height hh h0 hs h
def JM(R:World->Prop)(p:GP)(n:Nat)(height:Nat)(x:fT)(e:Ending)(w':World):Prop:= ∃b,e= .returned (.bool b)/\ ∃R' p' y vS vC,oF R p n R' p'/\Pt 0 height x y/\aG R' w' p' y vS vC
def JN(JL:Int):Prop:= ∀(R:World->Prop) (w:World) (p:GP) (x:fT) (vS vC:Value) (M:bL) (L:List Int) (S:ig) (n:Nat) (height:Nat) (cnt:Int),aG R w p x vS vC->dH R p->kf R p M L S->jq M L S->lR R p n->height<=x.s.length->x.left=JL->0<=JL->(x.code.length:Int)+x.s.length+200*JL<=900000->
 Calls prog 33 #[.pointer (some ⟨p.g,0,none⟩),.int .i64 height,.int .i64 cnt] w (JM R p n height x)
theorem F4{R:World->Prop}{w:World}{p:GP}{x:fT}{vS vC:Value}(h:aG R w p x vS vC)(hT:dH R p){M:bL}{L:List Int}{S:ig}(hE:kf R p M L S)(hM:jq M L S){n:Nat}(vW:lR R p n)(height:Nat)(cnt:Int)(hh:height<=x.s.length)(h0:0<=x.left)(hs:(x.code.length:Int)+x.s.length+200*x.left<=900000)(YW: ∀l,0<=l->l<x.left->YV l):Calls prog 33 #[.pointer (some ⟨p.g,0,none⟩),.int .i64 height,.int .i64 cnt] w (JM R p n height x):=by
 obtain⟨W0,rfl⟩:=ex w;obtain⟨x0,rfl⟩:=ex x;obtain⟨Du,rfl⟩:=ex vS;obtain⟨Cc,rfl⟩:=ex vC;have cn:=hd h;have HT:=hd hT;clear h hT;have HE:=hd hE;have gZ:=hd hM;have Gq:=hd vW;have DB:=hd h0;have HB:=hd hs;have HH:=hd hh;have HON:=hd YW;clear hE hM vW h0 hs hh YW
 go_enter func33,ntmps33
 go_wp2_with fail
 refine jk 31 (fun d u W=> ∃(k:Nat) (y:fT) (vS vC v:Value) (R2:World->Prop),y.left=(d:Int)/\u 0= .pointer (some ⟨p.g,0,none⟩)/\u 1= .int .i64 height/\u 2= .int .i64 cnt/\u 7= .int .i64 k/\(k:Int)+y.left<=x0.left/\Hid (oF R p n R2 {p with vL:=v})/\Hid (aG R2 W {p with vL:=v} y vS vC)/\Hid (Pt 0 height x0 y)) x0.left.toNat rfl rfl ⟨0,x0,_,_,p.vL,R,by have:=DB.o;omega,rfl,rfl,rfl,rfl,by simp,hd (oF.refl Gq.o),cn,hd ⟨HH.o,by omega,DB.o,by omega⟩⟩ ?_;intro d u W2 q hI hq;obtain⟨k,x2,Bf,yb,v2,R2,hd9,h0,h1,h2,h7,hk,qw,bw,ep⟩:=hI;simp only[List.range,List.range.loop,List.map_cons,List.map_nil,h0,h1,h2,h7]at hq;subst hq;clear h0 h1 h2 h7;have y15:W2.cell? ⟨p.g,15,none⟩=some (.int .i64 x2.left):=(aa bw.o.1 15).trans (ac2 bw.o.2.1 _ _ _);have f15:W2.frozen? ⟨p.g,15,none⟩=false:=ah bw.o.1 15;obtain⟨lf,hlf⟩:=ex x2.left;rw[<-hlf]at y15;by_cases hc:(k:Int)<cnt/\lf>0
 ·obtain⟨c1,c2⟩:=hc
  have HK:=hd (show(k:Int)<=1000000/\lf=(d:Int)/\0<d/\(k:Int)+lf<=x0.left by have:=HB.o;have u:=ep.o;unfold Pt at u;exact⟨by omega,by omega,by omega,by omega⟩);have nW:=hd hlf;clear hd9 hk hlf;obtain⟨l1,Am⟩: ∃l1:Nat,(l1:Int)=lf-1:=⟨(lf-1).toNat,by omega⟩;have a1:lf-1=(l1:Int):=Am.symm;have b1:l1<=4611686018427387904:=by have:=HK.o;have:=HB.o;omega
  have Ou:=hd (show(l1:Int)=lf-1 from Am);clear Am;have h3:=hd (bw.o.left (l1:Int));have ew:=hd (uh k (by have:=HK.o;omega));have w1:=kg _ _ a1 b1;clear a1 b1
  go_wp2_with fail
  clear y15 f15 c1 c2 w1;refine(HON.o (l1:Int) (by omega) (by have:=Ou.o;have:=HK.o;omega) _ _ _ _ _ _ _ _ _ _ height h3.o (dH.Lx (HT.o.weak qw.o.1) v2) (kf.Lx (HE.o.weak qw.o.1) v2) gZ.o qw.o.2.2 (by have u:=ep.o;unfold Pt at u;exact u.1) rfl (by omega) (by have u:=ep.o;have:=Ou.o;have:=nW.o;have:=HB.o;unfold Pt at u;show(x2.code.length:Int)+x2.s.length+_+_<=_;omega)).mono ?_;rintro e W4⟨b,rfl,R4,p4,x4,yc,rV,hsm,hu,h4⟩;have uC:=hd (qw.o.trans hsm);clear hsm;obtain⟨v4,rfl⟩:=uC.o.2.1;have gX:=hd (show Pt 0 height x0 x4/\x4.left<=(l1:Int) by have u:=ep.o;have:=Ou.o;have:=nW.o;unfold Pt at u hu⊢;dsimp only at hu;exact⟨⟨by omega,by omega,by omega,by omega⟩,by omega⟩);clear hu;cases b with
  |false=>
   go_wp2_with fail
   go_ret;exact⟨false,rfl,R4,_,x4,_,_,uC.o,gX.o.1,h4⟩
  |true=>
   have ew:=ew.o
   go_wp2_with fail
   exact⟨by first|trivial|rfl,by first|trivial|rfl,x4.left.toNat,(by have u:=gX.o;have:=Ou.o;have:=HK.o;unfold Pt at u;omega),k+1,x4,_,_,v4,R4,(by have u:=gX.o;unfold Pt at u;omega),rfl,rfl,rfl,congrArg (Value.int .i64) ew,(by have u:=gX.o;have:=Ou.o;have:=HK.o;unfold Pt at u;omega),uC,hd h4,hd gX.o.1⟩
 ·have hc2:((k:Int)<cnt/\ ¬lf>0)\/ ¬(k:Int)<cnt:=by omega
  clear hd9 hk hc;rcases hc2 with⟨c1,c2⟩|c1
  all_goals
   go_wp2_with fail
   go_ret;exact⟨true,rfl,R2,_,x2,_,_,qw.o,ep.o,bw.o⟩
abbrev Hd:=Option Addr×Nat×Nat
def hdV(h:Hd):Value:= .slice h.1 h.2.1 h.2.2
def DF:Kd Hd:=Kd.scalar hdV (fun _=>rfl)
theorem wh:(prog.info? 23).map (fun i=>(i.zero,i.size,i.bytes))=some (some (.slice none 0 0),DF.sz,24):=by kernel_rfl
theorem DG{w:World}{base g:Nat}(hb:w.heap[g]? =some (.cells #[] 23 (0,0)))(hbase:base<=g):DF.R 23 w base (fun _=>True) (.slice (some ⟨g,0,none⟩) 0 0) []:=
 Kd.Eh (yG (xs:= []) hb hbase (by simp)) (fun _ _=>trivial)
theorem DI{W:World}{P:Addr}{n:Nat}{Bs:Nat->Option Addr}{ds:Nat->Nat}{ls:Nat->List Int}(hn:n<=7)(h: ∀j,j<n->W.cell? (P.add j)=some (.slice (Bs j) (ls j).length (ds j))):DF.C W (some P) n ((List.range n).map (fun j=>(Bs j,(ls j).length,ds j))):=by
 refine Kd.kQ (d:=(none,0,0)) ⟨by simp,by omega,fun _=>⟨P,rfl,fun j hj=>?_⟩⟩;rw[h j hj];simp[hdV,gq,hj]
theorem Iq{w:World}{base:Nat}{O:Nat->Prop}{A:Option Addr}{n c:Nat}{xs:List Hd}(h:DF.R 23 w base (fun _=>True) (.slice A n c) xs)(hO: ∀k,(Value.slice A n c).ownBlock=some k-> ¬O k):Fz w O (fun W=>DF.C W A xs.length xs):=fun W hW=>by
 have hl:=Kd.gY h;have q:DF.R 23 W base (fun k=>some k=(Value.slice A n c).ownBlock) (.slice A n c) xs:=Kd.jN (Kd.rL rfl h) (fun k hk=>hW.block k (hl k hk.symm) (hO k hk.symm));exact(Kd.bA q).2.2
theorem lR.more{R R2:World->Prop}{p:GP}{n:Nat}(h:lR R p n)(hn:n<=6){P2:Option Addr}{c2:Nat}{A:Option Addr}{c:Nat}{l:List Int}(hl:l.length<=8){P:Addr}{cP:Nat}{Bs:Nat->Option Addr}{ds:Nat->Nat}{ls:Nat->List Int}(Sn:p.vL= .slice (some P) n (n+cP))(hls: ∀j,(ls j).length<=8)
 (hR: ∀W,R2 W->(∀j,j<n->bf W (Bs j) (ls j))/\bf W A l/\DF.C W P2 (n+1) ((List.range n).map (fun j=>(Bs j,(ls j).length,ds j))++ [(A,l.length,c)])) (hne: ∃W,R2 W):lR R2 {p with vL:= .slice P2 (n+1) (n+1+c2)} (n+1):=by
 obtain⟨W0,hW0⟩:=hne;obtain⟨P9,rfl,-⟩:=(Kd.oN (d:=((none,0,0):Hd)) (hR W0 hW0).2.2).2.2 (by omega);refine⟨by omega,by omega,P9,c2,fun j=>if j<n then Bs j else A,fun j=>if j<n then ds j else c,fun j=>if j<n then ls j else l,rfl,fun j=>?_,fun W hW j hj=>?_⟩
 ·dsimp only;split
  ·exact hls j
  ·exact hl
 ·obtain⟨a,b,e⟩:=hR W hW
  obtain⟨ad,h1,h2⟩:=(Kd.oN (d:=((none,0,0):Hd)) e).2.2 (by omega);injection h1 with h1;subst h1;have h3:=h2 j hj;by_cases hjn:j<n
  ·simp only[hjn,if_true]at h3⊢
   refine⟨h3.trans ?_,a j hjn⟩;simp[hdV,gq,List.getElem?_append,hjn]
  ·have:j=n:=by omega
   subst this;simp only[Nat.lt_irrefl,if_false]at h3⊢;refine⟨h3.trans ?_,b⟩;simp[hdV,gq,List.getElem?_append]
theorem lR.less{R:World->Prop}{p:GP}{n:Nat}(h:lR R p (n+1))(hn:0<n){P:Addr}{c:Nat}(hv:p.vL= .slice (some P) (n+1) (n+1+c)):lR R {p with vL:= .slice (some P) n (n+1+c)} n:=by
 obtain⟨a,b,P9,c9,Bs,ds,ls,e,l,f⟩:=h;rw[hv]at e;injection e with e1 e2 e3;injection e1 with e1;subst e1;exact⟨hn,by omega,P,1+c,Bs,ds,ls,by rw[Nat.add_assoc],l,fun W hW j hj=>f W hW j (by omega)⟩
theorem jq.Vq{M:bL}{L:List Int}{S:ig}(h:jq M L S)(a:Int):((Sp.aQ M a).getD cv).f0.length<=8/\((Sp.aQ M a).getD cv).f1.length<=8:=by
 unfold Sp.aQ
 (repeat' split)
 all_goals first
  |(simp[cv];done)
  |exact h.ht a
theorem LF{R:World->Prop}{w:World}{p:GP}{x:fT}{vS vC:Value}(h:aG R w p x vS vC)(hT:dH R p){M:bL}{L:List Int}{S:ig}(hE:kf R p M L S)(hM:jq M L S){n:Nat}(vW:lR R p n)(height:Nat)(hh:height<=x.s.length)(h0:0<=x.left)(hs:(x.code.length:Int)+x.s.length+200*x.left+200<=900000)(TC: ∀l,0<=l->l<=x.left->JN l):Calls prog 112 #[.pointer (some ⟨p.g,0,none⟩),.int .i64 height] w (YS R p n (.tuple #[]) (Pt 200 height x)):=by
 obtain⟨W0,rfl⟩:=ex w;obtain⟨x0,rfl⟩:=ex x;obtain⟨Du,rfl⟩:=ex vS;obtain⟨Cc,rfl⟩:=ex vC;have cn:=hd h;have HT:=hd hT;clear h hT;have HE:=hd hE;obtain⟨w0,A0,c0,A1,c1,A2,c2,A3,c3,A4,c4,A5,c5,A6,c6,A7,c7,AL,cL,AS,cS,AR,cR,iR,Cf,Cg⟩:=hE;have iL:=hd iR;have OY:=hd Cf;have Af:=hd Cg;clear iR Cf Cg;have gZ:=hd hM;have Gq:=hd vW;have DB:=hd h0;have cE:=hd hs;have HB:=hd (show x0.code.length+x0.s.length+500<=1000000 by omega);have HH:=hd hh;have HBO:=hd TC;clear hM h0 hs hh TC;obtain⟨hn0,Tw,PL,Qj,Bs,ds,ls,Sn,hls,FU⟩:=vW;have HN:=hd (And.intro hn0 Tw);have Bh:=hd Sn;have xu:=hd hls;have qj:=hd FU;clear hn0 Tw Sn hls FU;have oA:=((aa cn.o.1 13).trans (rz cn.o.2.1 _ _ _)).trans (congrArg some Bh.o);by_cases Vr:n<=6;rotate_left
 ·have g1:(n:Int)>6:=by omega
  clear Vr
  go_enter func112,ntmps112
  go_wp2_with fail
  go_end0
  exact⟨rfl,R,p,x0,_,_,oF.refl Gq.o,(by have:=DB.o;exact⟨HH.o,by omega,by omega,by omega⟩),cn.o⟩
 have g1: ¬(n:Int)>6:=by omega
 have HN6:=hd Vr;clear Vr;have w1:wrap64 ((M.f0.length:Int)+4)=((M.f0.length+4:Nat):Int):=kg _ _ (by omega) (by have:=gZ.o.h0;omega);have Pd:=hd (show 0<wrap64 ((M.f0.length:Int)+4)/\wrap64 ((M.f0.length:Int)+4)<=4294967296 from by rw[w1];exact⟨by omega,by have:=gZ.o.h0;omega⟩);clear w1
 go_enter func112,ntmps112
 go_wp2_with fail
 clear oA g1;have y0:=(aa cn.o.1 0).trans (jU _ _ _ _);have y1:=gy cn.o iL.o 1 0;refine st 14 (fun w'=>w'.cell? ⟨p.g,0,none⟩=some (.pointer (some ⟨p.tb,0,none⟩))/\w'.cell? ⟨p.g,1,none⟩=some (.slice A0 M.f0.length c0)) [] ⟨y0,y1⟩ (fun ag=>?_);refine cZ 0 16 1 17 2 18 ?_;refine tk 3 19 ag ?_;refine cZ 4 20 5 21 6 22 ?_;refine pu 7 23 ?_;refine tk 8 24 ag ?_;refine pu2 9 25 10 26 ?_;refine on 11 (some 27) (fun K hK=>?_);refine ge (bK (cn.o.drewN 1) HT.o (wrap64 ((M.f0.length:Int)+4)) Pd.o.1 Pd.o.2) ?_;rintro e W1⟨r1,q1,Dv,Dw,rfl,h1⟩;obtain⟨x1,bE,fP⟩:=Mf h1;clear h1;refine⟨_,rfl,?_⟩;refine hK.o _ _ ⟨((aa bE.o.1 0).trans (jU _ _ _ _)),((gy bE.o iL.o 1 0))⟩ (fun ag=>?_);clear hK K;refine nm ?_;refine pu2 12 28 13 4 ?_;refine dn ?_;clear y0 y1;obtain⟨Bd,rfl⟩:=ex Du;obtain⟨Be,rfl⟩:=ex Cc;clear Dv Dw;have y1:=gy bE.o iL.o 1 0;have y2:=gy bE.o iL.o 2 1;have y3:=gy bE.o iL.o 3 2;have y4:=gy bE.o iL.o 4 3;have y5:=gy bE.o iL.o 5 4;have y6:=gy bE.o iL.o 6 5;have y7:=gy bE.o iL.o 7 6;have y8:=gy bE.o iL.o 8 7
 go_wp2_with fail
 clear y1 y2 y3 y4 y5 y6 y7 y8;generalize wrap64 (r1-4)=a;refine(GS M _ a w0 W1 OY.o (Af.o _ bE.o.get).1).mono ?_;rintro e Wb⟨u1,u2,rfl,s1,s2,hb⟩;obtain⟨A9,c9,rfl,f1⟩:=rA bE.o hb (fun W hW=>(Af.o W hW).1) s1;obtain⟨i7,c10,rfl,f2⟩:=rA bE.o hb (fun W hW=>(Af.o W hW).1) s2;have h9:=(((bE.o.below hb).and f1).and f2).box #[.slice A9 ((Sp.aQ M a).getD cv).f0.length c9,.slice i7 ((Sp.aQ M a).getD cv).f1.length c10] 40;clear s1 s2 f1 f2 hb;have y0:=(aa h9.1 0).trans (jU _ _ _ _)
 go_wp2_with fail
 clear y0;obtain⟨T,hT⟩:=ex ((Sp.aQ M a).getD cv);rw[<-hT]at h9⊢;have tD:=hd (show T.f0.length<=8/\T.f1.length<=8 by rw[hT];exact gZ.o.Vq _);clear hT;obtain⟨R9,O6⟩: ∃R9:World->Prop,R9=fun V=>((R V/\bf V A9 T.f0)/\bf V i7 T.f1)/\V.heap[Wb.heap.size]? =some (.cells #[.slice A9 T.f0.length c9,.slice i7 T.f1.length c10] 40 (0,0)):=⟨_,rfl⟩
 have ir:=hd (show∀V,R9 V->((R V/\bf V A9 T.f0)/\bf V i7 T.f1)/\V.heap[Wb.heap.size]? =some (.cells #[.slice A9 T.f0.length c9,.slice i7 T.f1.length c10] 40 (0,0))from fun V hV=>by rw[O6]at hV;exact hV);rw[<-O6]at h9;clear O6;generalize Wb.alloc (.cells #[.slice A9 T.f0.length c9,.slice i7 T.f1.length c10] 40)=W2 at h9⊢;obtain⟨x2,hx2⟩:=ex x1;rw[<-hx2]at h9;have bw:=hd h9;have ep:=hd (show Up 0 0 x1 x2 by subst hx2;exact⟨rfl,rfl,rfl⟩);clear h9 hx2;obtain⟨Bf,rfl⟩:=ex Bd;obtain⟨yb,rfl⟩:=ex Be;have Fx:=hd (HT.o.weak (fun V hV=>(ir.o V hV).1.1.1));have Qm:=hd (HE.o.weak (fun V hV=>(ir.o V hV).1.1.1));refine(bK bw.o Fx.o 3 (by decide) (by decide)).mono ?_;rintro e W3⟨r3,q3,Vd,Ve,rfl,h3⟩;obtain⟨x3,qi,nZ,rfl,rfl,cC,gu⟩:=Ae h3;clear h3;clear Vd Ve;have qY:=hd (show height+0<=x3.s.length/\x3.code.length+x3.s.length<=x0.code.length+x0.s.length+0/\x3.left=x0.left by have:=HH.o;have u:=(fP.o.trans ep.o).trans gu.o;unfold Up at u;omega);have t0:=(aa (ir.o _ cC.o.get).2 0).trans rfl
 go_wp2_with fail
 clear t0;refine(jo cC.o Fx.o Qm.o (by have:=gZ.o.hL;omega) (by have:=gZ.o.Bg;omega) A9 c9 T.f0 (fun V hV=>(ir.o V hV).1.1.2) (by have:=tD.o;omega) height (by have:=HB.o;have:=HH.o;have:=qY.o;omega) (by have:=HB.o;have:=HH.o;have:=qY.o;omega) (by have:=HB.o;have:=HH.o;have:=qY.o;omega)).mono ?_;rintro e W4⟨rfl,x4,yc,rV,oz,h4⟩;have bP:=hd h4;have uC:=hd (show height+T.f0.length<=x4.s.length/\x4.code.length+x4.s.length<=x0.code.length+x0.s.length+16/\x4.left=x0.left by have:=qY.o;have:=tD.o;unfold Nd at oz;omega);clear h4 oz;by_cases h4:wrap64 (2+r3)=4
 case' _=>have g4:(wrap64 (2+r3)==4)=true:=by rw[h4];rfl
 rotate_left
 case' _=>have g4:(wrap64 (2+r3)==4)=false:=by simpa using h4
 all_goals
  clear h4
  go_wp2_with fail
 case' _=>
  obtain⟨W6,x6,O7,O8,hw,oa,YU⟩: ∃W6 x6 O7 O8,W6=W4/\Hid (aG R9 W6 p x6 O7 O8)/\Hid (height+T.f0.length<=x6.s.length/\x6.code.length+x6.s.length<=x0.code.length+x0.s.length+20/\x6.left=x0.left):=⟨W4,x4,yc,rV,rfl,bP,hd (by have:=uC.o;omega)⟩;rw[<-hw];clear hw
 rotate_left
 case' _=>
  refine(j7 bP.o Fx.o Qm.o (by have:=gZ.o.hL;omega) (by have:=gZ.o.Bg;omega) 127 (by have:=HB.o;have:=HH.o;have:=uC.o;omega) (by have:=HB.o;have:=HH.o;have:=uC.o;omega)).mono ?_;rintro e W5⟨rfl,x5,ye,uW,pR,h5⟩;have gI:=hd h5;have C9:=hd (show height+T.f0.length+1<=x5.s.length/\x5.code.length+x5.s.length<=x0.code.length+x0.s.length+18/\x5.left=x0.left by have:=uC.o;unfold Up at pR;omega);clear h5 pR
  go_wp2_with fail
  refine(lQ (gI.o.alloc _) Fx.o _ 1 1 (by have:=HB.o;have:=HH.o;have:=C9.o;omega) none 0 [] (fun W hW=>JK W) (by decide) (by have:=HB.o;have:=HH.o;have:=C9.o;omega)).mono ?_;rintro e W6⟨rfl,x6,O7,O8,DA,h6⟩;have oa:=hd h6;have YU:=hd (show height+T.f0.length<=x6.s.length/\x6.code.length+x6.s.length<=x0.code.length+x0.s.length+20/\x6.left=x0.left by have:=C9.o;unfold Sw at DA;simp only[List.length_nil]at DA;omega);clear h6 DA
  go_wp2_with fail
 all_goals
  refine(bY oa.o _ _ _ _ (by have:=HB.o;have:=HH.o;have:=YU.o;omega)).mono ?_;rintro e W7⟨rfl,x7,vS7,Tz,TA,h7⟩;have wM:=hd h7;have Bj:=hd (show Up 0 1 x6 x7 from TA);clear h7 TA;have HS7:=hd (show height+T.f0.length<=x7.s.length/\x7.code.length+x7.s.length<=x0.code.length+x0.s.length+21/\x7.left=x0.left by have:=YU.o;have u:=Bj.o;unfold Up at u;omega);obtain⟨PS7,kS7,DJ⟩:=Kd.ai wM.o.2.2.2.2.2.2.1;subst DJ;have fJ:=(aa wM.o.1 12).trans (jV wM.o.2.1 _ _ _);have t0:=(aa (ir.o _ wM.o.get).2 0).trans rfl;have t1:=(aa (ir.o _ wM.o.get).2 1).trans rfl;obtain⟨H,hH⟩:=ex (x7.s.length-T.f0.length);have a1:(x7.s.length:Int)-(T.f0.length:Int)=(H:Int):=by have:=HS7.o;omega
  have b1:H<=4611686018427387904:=by have:=HB.o;have:=HH.o;have:=HS7.o;omega
  have HHH:=hd (show height<=H/\H+T.f0.length=x7.s.length by have:=HS7.o;omega);clear hH;have w1:=kg _ _ a1 b1;clear a1 b1
 case' _=>
  have g3:(wrap64 (2+r3)==3)=false:=by have h4:=eq_of_beq g4;rw[h4];rfl
 rotate_left
 case' _=>
  by_cases h3:wrap64 (2+r3)=3
  case' _=>have g3:(wrap64 (2+r3)==3)=true:=by rw[h3];rfl
  rotate_left
  case' _=>have g3:(wrap64 (2+r3)==3)=false:=by simpa using h3
  all_goals clear h3
 rotate_left 2
 all_goals
  go_wp2_with fail
  go_quiet (fail)
  try rw[w1]
  clear fJ t0 t1 w1;have mN:=hd (wM.o.drewN nq);generalize W7.drewN nq=W8 at mN⊢;have t0:=(aa (ir.o _ mN.o.get).2 0).trans rfl;have t1:=(aa (ir.o _ mN.o.get).2 1).trans rfl
 case' _=>
  have oA:=((aa mN.o.1 13).trans (rz mN.o.2.1 _ _ _)).trans (congrArg some Bh.o);have y0:=(aa mN.o.1 0).trans (jU _ _ _ _);have ya:=ak (o:= .cells #[] 23) oA;have BB:([]++((List.range n).map (fun j=>(Bs j,(ls j).length,ds j))):List Hd).length=n:=by simp
  have hn2:([]++((List.range n).map (fun j=>(Bs j,(ls j).length,ds j)))++ [(i7,(T.f1).length,c10)]:List Hd).length=n+1:=by simp
  have hrd:DF.C (W8.alloc (.cells #[] 23)) (some PL) n ((List.range n).map (fun j=>(Bs j,(ls j).length,ds j))):=Kd.aS (DI HN.o.2 (fun j hj=>(qj.o _ (ir.o _ mN.o.get).1.1.1 j hj).1)) _;have hb0:W8.heap.size<=(W8.alloc (.cells #[] 23)).heap.size:=by simp
  have Am:(([]:List Hd).length+n)*24<=140737488355328:=by have:=HN.o;simp;omega
  have hl2:(([]++((List.range n).map (fun j=>(Bs j,(ls j).length,ds j))):List Hd).length+1)*24<=140737488355328:=by rw[BB];have:=HN.o;omega
  go_wp2_with (first|(at_builtin;(refine Kd.fF DF (w0:=W8) W8.heap.size rfl (.tmp 77) (.tmp 81) 89 23 (.slice none 0 0) 24 rfl underlying89 wh rfl (dG 0) (dG 23) (.slice (some ⟨W8.heap.size,0,none⟩) 0 0) [] ((List.range n).map (fun j=>(Bs j,(ls j).length,ds j))) (some PL) n (n+Qj) (fun _=>True) (fun _=>False) rfl rfl (DG (alloc_at rfl) (aU _)) hrd (fun _ _ h=>h) (fun _ h=>h.elim) (fun _ _=>trivial) (af (ay _ _) _) hb0 Am ?_);intro v9 u1 hR hB hG hat;obtain⟨P9,k9,e9⟩:=Kd.ai hR;rw[BB]at e9;subst e9;have iK:=hd hR;have bE:=hd hB;clear hR hB hG hat hrd hb0 Am)|(at_builtin;(refine Kd.fc DF (w0:=W8) W8.heap.size rfl (.tmp 82) (.tmp 84) 89 23 (.slice none 0 0) 24 rfl underlying89 wh rfl (dG 0) (dG 23) (.slice P9 n k9) ([]++((List.range n).map (fun j=>(Bs j,(ls j).length,ds j)))) (i7,(T.f1).length,c10) [.slice i7 (T.f1).length c10] (fun _=>True) (fun k=>some k≠(Value.slice P9 n k9).ownBlock) rfl rfl rfl (fun _ hk=>⟨trivial,hk⟩) (fun _ _=>trivial) iK.o bE.o bE.o.size hl2 ?_);intro v8 u2 hR hB hG hat;obtain⟨P8,k8,e8⟩:=Kd.ai hR;rw[hn2]at e8;subst e8;have ia:=hd hR;have bw:=hd hB;have z0:=(bw.o.cell (aR _ _ y0)).trans y0;have Vs:=(bw.o.cell (aR _ _ oA)).trans oA;have f13:=ah ((bw.o.block _ (aj mN.o.1)).trans mN.o.1) 13;clear hR hB hG hat hl2))
  clear oA y0 ya Vs f13 z0 t0 t1 g3;have hU:=(mN.o.below bw.o).and (Iq ia.o (fun k hk ho=>by have h1:=Kd.iW ia.o k hk;have h2:=mN.o.iC ho;omega));rw[hn2]at hU;obtain⟨k7,YX⟩: ∃k7,k8=n+1+k7:=⟨k8-(n+1),by have:=(Kd.bA ia.o).2.1;omega⟩;subst YX;have Pj:=hU.labels (.slice P8 (n+1) (n+1+k7));have TD:=lR.more Gq.o HN6.o (P2:=P8) (c2:=k7) (A:=i7) (c:=c10) (l:=T.f1) (by have:=tD.o;omega) Bh.o xu.o (fun V (hV:R9 V/\DF.C V P8 (n+1) ([]++((List.range n).map (fun j=>(Bs j,(ls j).length,ds j)))++ [(i7,(T.f1).length,c10)]))=>⟨fun j hj=>(qj.o V (ir.o V hV.1).1.1.1 j hj).2,(ir.o V hV.1).1.2,hV.2⟩) ⟨_,Pj.get⟩;obtain⟨Ir,xw,jC,hw,pT,HRA,nW⟩: ∃(Ir:World->Prop) (xw:Value) (jC:World),jC=(World.setCell u2 ⟨p.g,13,none⟩ (.slice P8 (n+1) (n+1+k7)))/\Hid (aG Ir jC {p with vL:=xw} x7 (.slice PS7 x7.s.length kS7) Tz)/\Hid (∀V,Ir V->R9 V)/\Hid (lR Ir {p with vL:=xw} (n+1)):=⟨_,_,_,rfl,hd Pj,hd (fun V hV=>hV.1),hd TD⟩;rw[<-hw];clear hw hU Pj TD iK ia bE bw BB hn2
 rotate_left
 case' _=>
  have oA:=((aa mN.o.1 13).trans (rz mN.o.2.1 _ _ _)).trans (congrArg some Bh.o);have y0:=(aa mN.o.1 0).trans (jU _ _ _ _);have ya:=ak (o:= .cells #[] 23) oA;have BB:([]++((List.range n).map (fun j=>(Bs j,(ls j).length,ds j))):List Hd).length=n:=by simp
  have hn2:([]++((List.range n).map (fun j=>(Bs j,(ls j).length,ds j)))++ [(i7,(T.f1).length,c10)]:List Hd).length=n+1:=by simp
  have hrd:DF.C (W8.alloc (.cells #[] 23)) (some PL) n ((List.range n).map (fun j=>(Bs j,(ls j).length,ds j))):=Kd.aS (DI HN.o.2 (fun j hj=>(qj.o _ (ir.o _ mN.o.get).1.1.1 j hj).1)) _;have hb0:W8.heap.size<=(W8.alloc (.cells #[] 23)).heap.size:=by simp
  have Am:(([]:List Hd).length+n)*24<=140737488355328:=by have:=HN.o;simp;omega
  have hl2:(([]++((List.range n).map (fun j=>(Bs j,(ls j).length,ds j))):List Hd).length+1)*24<=140737488355328:=by rw[BB];have:=HN.o;omega
  go_wp2_with (first|(at_builtin;(refine Kd.fF DF (w0:=W8) W8.heap.size rfl (.tmp 77) (.tmp 81) 89 23 (.slice none 0 0) 24 rfl underlying89 wh rfl (dG 0) (dG 23) (.slice (some ⟨W8.heap.size,0,none⟩) 0 0) [] ((List.range n).map (fun j=>(Bs j,(ls j).length,ds j))) (some PL) n (n+Qj) (fun _=>True) (fun _=>False) rfl rfl (DG (alloc_at rfl) (aU _)) hrd (fun _ _ h=>h) (fun _ h=>h.elim) (fun _ _=>trivial) (af (ay _ _) _) hb0 Am ?_);intro v9 u1 hR hB hG hat;obtain⟨P9,k9,e9⟩:=Kd.ai hR;rw[BB]at e9;subst e9;have iK:=hd hR;have bE:=hd hB;clear hR hB hG hat hrd hb0 Am)|(at_builtin;(refine Kd.fc DF (w0:=W8) W8.heap.size rfl (.tmp 82) (.tmp 84) 89 23 (.slice none 0 0) 24 rfl underlying89 wh rfl (dG 0) (dG 23) (.slice P9 n k9) ([]++((List.range n).map (fun j=>(Bs j,(ls j).length,ds j)))) (i7,(T.f1).length,c10) [.slice i7 (T.f1).length c10] (fun _=>True) (fun k=>some k≠(Value.slice P9 n k9).ownBlock) rfl rfl rfl (fun _ hk=>⟨trivial,hk⟩) (fun _ _=>trivial) iK.o bE.o bE.o.size hl2 ?_);intro v8 u2 hR hB hG hat;obtain⟨P8,k8,e8⟩:=Kd.ai hR;rw[hn2]at e8;subst e8;have ia:=hd hR;have bw:=hd hB;have z0:=(bw.o.cell (aR _ _ y0)).trans y0;have Vs:=(bw.o.cell (aR _ _ oA)).trans oA;have f13:=ah ((bw.o.block _ (aj mN.o.1)).trans mN.o.1) 13;clear hR hB hG hat hl2))
  clear oA y0 ya Vs f13 z0 t0 t1 g3;have hU:=(mN.o.below bw.o).and (Iq ia.o (fun k hk ho=>by have h1:=Kd.iW ia.o k hk;have h2:=mN.o.iC ho;omega));rw[hn2]at hU;obtain⟨k7,YX⟩: ∃k7,k8=n+1+k7:=⟨k8-(n+1),by have:=(Kd.bA ia.o).2.1;omega⟩;subst YX;have Pj:=hU.labels (.slice P8 (n+1) (n+1+k7));have TD:=lR.more Gq.o HN6.o (P2:=P8) (c2:=k7) (A:=i7) (c:=c10) (l:=T.f1) (by have:=tD.o;omega) Bh.o xu.o (fun V (hV:R9 V/\DF.C V P8 (n+1) ([]++((List.range n).map (fun j=>(Bs j,(ls j).length,ds j)))++ [(i7,(T.f1).length,c10)]))=>⟨fun j hj=>(qj.o V (ir.o V hV.1).1.1.1 j hj).2,(ir.o V hV.1).1.2,hV.2⟩) ⟨_,Pj.get⟩;obtain⟨Ir,xw,jC,hw,pT,HRA,nW⟩: ∃(Ir:World->Prop) (xw:Value) (jC:World),jC=(World.setCell u2 ⟨p.g,13,none⟩ (.slice P8 (n+1) (n+1+k7)))/\Hid (aG Ir jC {p with vL:=xw} x7 (.slice PS7 x7.s.length kS7) Tz)/\Hid (∀V,Ir V->R9 V)/\Hid (lR Ir {p with vL:=xw} (n+1)):=⟨_,_,_,rfl,hd Pj,hd (fun V hV=>hV.1),hd TD⟩;rw[<-hw];clear hw hU Pj TD iK ia bE bw BB hn2
 rotate_left
 case' _=>
  have oA:=((aa mN.o.1 13).trans (rz mN.o.2.1 _ _ _)).trans (congrArg some Bh.o);have y0:=(aa mN.o.1 0).trans (jU _ _ _ _);have ya:=ak (o:= .cells #[] 23) oA;have BB:([]++((List.range n).map (fun j=>(Bs j,(ls j).length,ds j))):List Hd).length=n:=by simp
  have hn2:([]++((List.range n).map (fun j=>(Bs j,(ls j).length,ds j)))++ [(A9,(T.f0).length,c9)]:List Hd).length=n+1:=by simp
  have hrd:DF.C (W8.alloc (.cells #[] 23)) (some PL) n ((List.range n).map (fun j=>(Bs j,(ls j).length,ds j))):=Kd.aS (DI HN.o.2 (fun j hj=>(qj.o _ (ir.o _ mN.o.get).1.1.1 j hj).1)) _;have hb0:W8.heap.size<=(W8.alloc (.cells #[] 23)).heap.size:=by simp
  have Am:(([]:List Hd).length+n)*24<=140737488355328:=by have:=HN.o;simp;omega
  have hl2:(([]++((List.range n).map (fun j=>(Bs j,(ls j).length,ds j))):List Hd).length+1)*24<=140737488355328:=by rw[BB];have:=HN.o;omega
  go_wp2_with (first|(at_builtin;(refine Kd.fF DF (w0:=W8) W8.heap.size rfl (.tmp 77) (.tmp 81) 89 23 (.slice none 0 0) 24 rfl underlying89 wh rfl (dG 0) (dG 23) (.slice (some ⟨W8.heap.size,0,none⟩) 0 0) [] ((List.range n).map (fun j=>(Bs j,(ls j).length,ds j))) (some PL) n (n+Qj) (fun _=>True) (fun _=>False) rfl rfl (DG (alloc_at rfl) (aU _)) hrd (fun _ _ h=>h) (fun _ h=>h.elim) (fun _ _=>trivial) (af (ay _ _) _) hb0 Am ?_);intro v9 u1 hR hB hG hat;obtain⟨P9,k9,e9⟩:=Kd.ai hR;rw[BB]at e9;subst e9;have iK:=hd hR;have bE:=hd hB;clear hR hB hG hat hrd hb0 Am)|(at_builtin;(refine Kd.fc DF (w0:=W8) W8.heap.size rfl (.tmp 82) (.tmp 84) 89 23 (.slice none 0 0) 24 rfl underlying89 wh rfl (dG 0) (dG 23) (.slice P9 n k9) ([]++((List.range n).map (fun j=>(Bs j,(ls j).length,ds j)))) (A9,(T.f0).length,c9) [.slice A9 (T.f0).length c9] (fun _=>True) (fun k=>some k≠(Value.slice P9 n k9).ownBlock) rfl rfl rfl (fun _ hk=>⟨trivial,hk⟩) (fun _ _=>trivial) iK.o bE.o bE.o.size hl2 ?_);intro v8 u2 hR hB hG hat;obtain⟨P8,k8,e8⟩:=Kd.ai hR;rw[hn2]at e8;subst e8;have ia:=hd hR;have bw:=hd hB;have z0:=(bw.o.cell (aR _ _ y0)).trans y0;have Vs:=(bw.o.cell (aR _ _ oA)).trans oA;have f13:=ah ((bw.o.block _ (aj mN.o.1)).trans mN.o.1) 13;clear hR hB hG hat hl2))
  clear oA y0 ya Vs f13 z0 t0 t1 g3;have hU:=(mN.o.below bw.o).and (Iq ia.o (fun k hk ho=>by have h1:=Kd.iW ia.o k hk;have h2:=mN.o.iC ho;omega));rw[hn2]at hU;obtain⟨k7,YX⟩: ∃k7,k8=n+1+k7:=⟨k8-(n+1),by have:=(Kd.bA ia.o).2.1;omega⟩;subst YX;have Pj:=hU.labels (.slice P8 (n+1) (n+1+k7));have TD:=lR.more Gq.o HN6.o (P2:=P8) (c2:=k7) (A:=A9) (c:=c9) (l:=T.f0) (by have:=tD.o;omega) Bh.o xu.o (fun V (hV:R9 V/\DF.C V P8 (n+1) ([]++((List.range n).map (fun j=>(Bs j,(ls j).length,ds j)))++ [(A9,(T.f0).length,c9)]))=>⟨fun j hj=>(qj.o V (ir.o V hV.1).1.1.1 j hj).2,(ir.o V hV.1).1.1.2,hV.2⟩) ⟨_,Pj.get⟩;obtain⟨Ir,xw,jC,hw,pT,HRA,nW⟩: ∃(Ir:World->Prop) (xw:Value) (jC:World),jC=(World.setCell u2 ⟨p.g,13,none⟩ (.slice P8 (n+1) (n+1+k7)))/\Hid (aG Ir jC {p with vL:=xw} x7 (.slice PS7 x7.s.length kS7) Tz)/\Hid (∀V,Ir V->R9 V)/\Hid (lR Ir {p with vL:=xw} (n+1)):=⟨_,_,_,rfl,hd Pj,hd (fun V hV=>hV.1),hd TD⟩;rw[<-hw];clear hw hU Pj TD iK ia bE bw BB hn2
 rotate_left
 all_goals
  obtain⟨eo,rfl⟩:=ex x7;generalize Value.slice PS7 eo.s.length kS7=YN at pT⊢;obtain⟨Vm,rfl⟩:=ex Tz;have YY:=hd (show H<=eo.s.length/\(eo.code.length:Int)+eo.s.length+200*eo.left<=x0.code.length+x0.s.length+200*x0.left+21/\0<=eo.left/\eo.left<=x0.left by have:=HS7.o;have:=HHH.o;have:=DB.o;omega);have zR:=HRA;have zS:=nW;clear HRA nW;obtain⟨Rz,rfl⟩:=ex Ir;obtain⟨vz,rfl⟩:=ex xw;have jW:=zR;have xx:=zS;clear zR zS;have Gt:Hid (dH Rz {p with vL:=vz}):=hd (dH.Lx (Fx.o.weak jW.o) vz);have LG:Hid (kf Rz {p with vL:=vz} M L S):=hd (kf.Lx (Qm.o.weak jW.o) vz);have y0:jC.cell? ⟨p.g,0,none⟩=some (.pointer (some ⟨p.tb,0,none⟩)):=(aa pT.o.1 0).trans (jU _ _ _ _)
  go_wp2_with fail
  clear y0;refine(bK pT.o Gt.o 5 (by decide) (by decide)).mono ?_;rintro e vM⟨r11,q11,ah7,ah8,rfl,h11⟩;obtain⟨Pb,adn,ado,rfl,rfl,F3,Sv⟩:=Ae h11;clear h11;have Iu:=hd (show H<=Pb.s.length/\(Pb.code.length:Int)+Pb.s.length+200*Pb.left<=x0.code.length+x0.s.length+200*x0.left+21/\0<=Pb.left/\Pb.left<=x0.left by have:=YY.o;have u:=Sv.o;unfold Up at u;omega);clear Sv YY pT
  go_wp2_with fail
  refine(HBO.o Pb.left (by have:=cE.o;have:=Iu.o;omega) (by have:=cE.o;have:=Iu.o;omega) _ _ _ _ _ _ _ _ _ _ H _ F3.o Gt.o LG.o gZ.o xx.o (by have:=cE.o;have:=Iu.o;omega) rfl (by have:=cE.o;have:=Iu.o;omega) (by have:=cE.o;have:=Iu.o;omega)).mono ?_;rintro e Ea⟨b,rfl,R12,p12,Vt,adw,adx,⟨hr,⟨v12,rfl⟩,hl⟩,hu,h12⟩;have tA:Hid (aG R12 Ea {p with vL:=v12} Vt adw adx):=hd h12;have zR:Hid (∀V,R12 V->R9 V):=hd (fun V hV=>jW.o V (hr V hV));have zS:Hid (lR R12 {p with vL:=v12} (n+1)):=hd hl;have LH:=hd (show H<=Vt.s.length/\(Vt.code.length:Int)+Vt.s.length+200*Vt.left<=x0.code.length+x0.s.length+200*x0.left+21/\0<=Vt.left/\Vt.left<=x0.left by have:=Iu.o;unfold Pt at hu;omega);clear hr hl hu h12 Iu F3 jW xx Gt LG;obtain⟨Rz,rfl⟩:=ex R12;obtain⟨vz,rfl⟩:=ex v12;have jW:=zR;have xx:=zS;clear zR zS;have Gt:Hid (dH Rz {p with vL:=vz}):=hd (dH.Lx (Fx.o.weak jW.o) vz);have LG:Hid (kf Rz {p with vL:=vz} M L S):=hd (kf.Lx (Qm.o.weak jW.o) vz);cases b
  case' false=>
   obtain⟨yh,zT,DK,DL,hw,rD,zU⟩: ∃(yh:World) (zT:fT) (DK DL:Value),yh=Ea/\Hid (aG Rz yh {p with vL:=vz} zT DK DL)/\Hid (H<=zT.s.length/\(zT.code.length:Int)+zT.s.length+200*zT.left<=x0.code.length+x0.s.length+200*x0.left+37/\0<=zT.left/\zT.left<=x0.left):=⟨_,_,_,_,rfl,tA,hd (by have:=LH.o;omega)⟩;rw[<-hw];clear hw tA LH
  rotate_left
  case' true=>
   have t1:=(aa (ir.o _ (jW.o _ tA.o.get)).2 1).trans rfl
   go_wp2_with fail
   clear t1;refine(rW tA.o Gt.o LG.o (by have:=gZ.o.hL;omega) (by have:=gZ.o.Bg;omega) i7 c10 T.f1 (fun V hV=>(ir.o V (jW.o V hV)).1.2) (by have:=tD.o;omega) H (by have:=cE.o;have:=LH.o;omega) (by have:=cE.o;have:=LH.o;omega)).mono ?_;rintro e W⟨rfl,x,vS,vC,hu,h⟩;obtain⟨yh,zT,DK,DL,hw,rD,zU⟩: ∃(yh:World) (zT:fT) (DK DL:Value),yh=W/\Hid (aG Rz yh {p with vL:=vz} zT DK DL)/\Hid (H<=zT.s.length/\(zT.code.length:Int)+zT.s.length+200*zT.left<=x0.code.length+x0.s.length+200*x0.left+37/\0<=zT.left/\zT.left<=x0.left):=⟨_,_,_,_,rfl,hd h,hd (by have:=LH.o;have:=tD.o;unfold Sh at hu;omega)⟩;rw[<-hw];clear hw tA LH;clear h hu
  all_goals
   skip
 case' _=>
  go_wp2_with fail
  refine(bY rD.o _ _ _ _ (by have:=cE.o;have:=zU.o;omega)).mono ?_;rintro e Gu⟨rfl,nw,ady,Vu,Pk,mL⟩;have ny:=hd mL;have Pm:=hd (show Up 0 1 zT nw from Pk);clear mL Pk;have zV:=hd (show H<=nw.s.length/\(nw.code.length:Int)+nw.s.length+200*nw.left<=x0.code.length+x0.s.length+200*x0.left+38/\0<=nw.left/\nw.left<=x0.left by have:=zU.o;have u:=Pm.o;unfold Up at u;omega);clear Pm zU rD
  go_wp2_with fail
  obtain⟨Iw,DM,Vv⟩:=Kd.ai ny.o.2.2.2.2.2.2.1;subst Vv;have d0:(0:Int)<=(H:Int):=by omega
  have F5:=hd (show H<=nw.s.length by have:=cE.o;have:=zV.o;omega);have d1:(H:Int)<=(DM:Int):=by have:=(ny.o.gC H F5.o).1;omega
  have sB:=hd (show(([]:List Int).length+H)*8<=140737488355328 by have:=F5.o;have:=cE.o;have:=zV.o;simp only[List.length_nil];omega);have sD:=hd (show(([]++nw.s.take H:List Int).length+T.f0.length)*8<=140737488355328 by have:=F5.o;have:=tD.o;have:=cE.o;have:=zV.o;simp only[List.nil_append,List.length_take];omega);have fJ:Gu.cell? ⟨p.g,12,none⟩=some (.slice Iw nw.s.length DM):=(aa ny.o.1 12).trans (jV ny.o.2.1 _ _ _);have t0:=(aa (ir.o _ (jW.o _ ny.o.get)).2 0).trans rfl
  go_wp2_with fail
  refine st 15 (fun w'=>w'.cell? ⟨p.g,12,none⟩=some (.slice Iw nw.s.length DM)/\w'.cell? ⟨Wb.heap.size,0,none⟩=some (.slice A9 T.f0.length c9)) [14] ⟨fJ,t0⟩ (fun ag=>?_);refine cZ 0 107 2 109 3 110 ?_;refine pu 4 111 ?_;refine tk 5 112 ag ?_;refine cZ 6 113 7 114 9 116 ?_;refine tk 10 117 ag ?_;refine on 1 (some 108) (fun K hK=>?_);rw[if_pos (by rfl)]
  go_simp
  refine hK.o _ _ ⟨ak ag.1,ak ag.2⟩ (fun ag=>?_);clear hK K;refine on 8 (some 115) (fun K hK=>?_);refine Kd.cr (Kd.int .i64) (w0:=Gu.drew) (W:=(Gu.drew.alloc (.cells #[] 3))) Gu.drew.heap.size (by rfl) (.tmp 108) (.tmp 114) 23 3 (.int .i64 0) 8 (by rfl) underlying23 cQ rfl (by decide) (by decide) (.slice (some ⟨Gu.drew.heap.size,0,none⟩) 0 0) [] (nw.s.take H) Iw H DM (fun _=>True) (fun _=>False) (by rfl) (by rfl) (dW (xs:= []) (alloc_at rfl) (aU _) (fN (by simp))) (Kd.aS (Kd.eL (ny.o.gC H F5.o).2) _) (fun _ _ h=>h) (fun _ h=>h.elim) (fun _ _=>trivial) (af (ay _ _) _) (by simp) sB.o ?_;intro v9 u1 hR hB hG hat;obtain⟨P9,k9,e9⟩:=Kd.ai hR;generalize ([]++nw.s.take H:List Int).length=n9 at e9;subst e9;have iK:=hd hR;have bE:=hd hB;clear hR hB hG hat;refine hK.o _ _ ⟨((bE.o.cell (aR _ _ fJ)).trans fJ),((bE.o.cell (aR _ _ t0)).trans t0)⟩ (fun ag=>?_);clear hK K;refine nm ?_;refine on 11 (some 118) (fun K hK=>?_);refine Kd.cr (Kd.int .i64) (w0:=Gu.drew) (W:=u1) Gu.drew.heap.size (by rfl) (.tmp 115) (.tmp 117) 23 3 (.int .i64 0) 8 (by rfl) underlying23 cQ rfl (by decide) (by decide) (.slice P9 n9 k9) ([]++nw.s.take H) T.f0 A9 T.f0.length c9 (fun _=>True) (fun _=>False) (by rfl) (by rfl) iK.o ((fun q=>(ir.o _ (jW.o _ q)).1.1.2) ((ny.o.drewN 1).below bE.o).get) (fun _ _ h=>h) (fun _ h=>h.elim) (fun _ _=>trivial) bE.o bE.o.size sD.o ?_;intro v8 u2 hR hB hG hat;obtain⟨P8,k8,e8⟩:=Kd.ai hR;generalize ([]++nw.s.take H++T.f0:List Int).length=n8 at e8;subst e8;have ia:=hd hR;have bw:=hd hB;clear hR hB hG hat;refine hK.o _ _ ⟨((bw.o.cell (aR _ _ fJ)).trans fJ),((bw.o.cell (aR _ _ t0)).trans t0)⟩ (fun ag=>?_);clear hK K;refine nm ?_;have z12:=(bw.o.cell (aR _ _ fJ)).trans fJ;have f12:u2.frozen? ⟨p.g,12,none⟩=false:=ah ((bw.o.block _ (aj ny.o.1)).trans ny.o.1) 12;refine pu2 12 119 13 120 ?_;refine la 14 ?_;refine dn ?_;have h9:aG Rz (World.setCell u2 ⟨p.g,12,none⟩ (.slice P8 n8 k8)) {p with vL:=vz} ⟨[]++nw.s.take H++T.f0,nw.code,nw.left,nw.pos⟩ _ _:=aG.uL (ny.o.drewN 1) bw.o ia.o;generalize World.setCell u2 ⟨p.g,12,none⟩ (.slice P8 n8 k8)=W15 at h9⊢;generalize Value.slice P8 n8 k8=adz at h9⊢;obtain⟨LI,hx⟩:=ex (fT.mk ([]++nw.s.take H++T.f0) nw.code nw.left nw.pos);rw[<-hx]at h9;have Iy:=hd h9;obtain⟨adA,rfl⟩:=ex Vu;have Pn:=hd (show H<=LI.s.length/\(LI.code.length:Int)+LI.s.length+200*LI.left<=x0.code.length+x0.s.length+200*x0.left+46/\0<=LI.left/\LI.left<=x0.left by have:=zV.o;have:=tD.o;subst hx;simp only[List.nil_append,List.length_append,List.length_take];omega);clear h9 hx fJ t0 z12 f12 d0 d1 F5 sB sD iK ia bE bw ny zV;have y0:W15.cell? ⟨p.g,0,none⟩=some (.pointer (some ⟨p.tb,0,none⟩)):=(aa Iy.o.1 0).trans (jU _ _ _ _)
  go_wp2_with fail
  clear y0;refine(bK Iy.o Gt.o 4 (by decide) (by decide)).mono ?_;rintro e W16⟨r16,q16,adC,adD,rfl,qp⟩;obtain⟨yj,adE,adF,rfl,rfl,Iz,Po⟩:=Ae qp;clear qp;have rE:=hd (show H<=yj.s.length/\(yj.code.length:Int)+yj.s.length+200*yj.left<=x0.code.length+x0.s.length+200*x0.left+46/\0<=yj.left/\yj.left<=x0.left by have:=Pn.o;have u:=Po.o;unfold Up at u;omega);clear Po Pn Iy
  go_wp2_with fail
  refine(HBO.o yj.left (by have:=cE.o;have:=rE.o;omega) (by have:=cE.o;have:=rE.o;omega) _ _ _ _ _ _ _ _ _ _ H _ Iz.o Gt.o LG.o gZ.o xx.o (by have:=cE.o;have:=rE.o;omega) rfl (by have:=cE.o;have:=rE.o;omega) (by have:=cE.o;have:=rE.o;omega)).mono ?_;rintro e Vw⟨b,rfl,SD,p17,Cj,Vx,Vy,⟨hr,⟨v17,rfl⟩,hl⟩,hu,YZ⟩;have wj:Hid (aG SD Vw {p with vL:=v17} Cj Vx Vy):=hd YZ;have zR:Hid (∀V,SD V->R9 V):=hd (fun V hV=>jW.o V (hr V hV));have zS:Hid (lR SD {p with vL:=v17} (n+1)):=hd hl;have rF:=hd (show H<=Cj.s.length/\(Cj.code.length:Int)+Cj.s.length+200*Cj.left<=x0.code.length+x0.s.length+200*x0.left+46/\0<=Cj.left/\Cj.left<=x0.left by have:=rE.o;unfold Pt at hu;omega);clear hr hl hu YZ rE Iz jW xx Gt LG;obtain⟨Rz,rfl⟩:=ex SD;obtain⟨vz,rfl⟩:=ex v17;have jW:=zR;have xx:=zS;clear zR zS;have Gt:Hid (dH Rz {p with vL:=vz}):=hd (dH.Lx (Fx.o.weak jW.o) vz);have LG:Hid (kf Rz {p with vL:=vz} M L S):=hd (kf.Lx (Qm.o.weak jW.o) vz);cases b
  case' false=>
   obtain⟨Ck,oL,uO,uP,hw,xy,zW⟩: ∃(Ck:World) (oL:fT) (uO uP:Value),Ck=Vw/\Hid (aG Rz Ck {p with vL:=vz} oL uO uP)/\Hid (H<=oL.s.length/\(oL.code.length:Int)+oL.s.length+200*oL.left<=x0.code.length+x0.s.length+200*x0.left+62/\0<=oL.left/\oL.left<=x0.left):=⟨_,_,_,_,rfl,wj,hd (by have:=rF.o;omega)⟩;rw[<-hw];clear hw wj rF
  rotate_left
  case' true=>
   have t1:=(aa (ir.o _ (jW.o _ wj.o.get)).2 1).trans rfl
   go_wp2_with fail
   clear t1;refine(rW wj.o Gt.o LG.o (by have:=gZ.o.hL;omega) (by have:=gZ.o.Bg;omega) i7 c10 T.f1 (fun V hV=>(ir.o V (jW.o V hV)).1.2) (by have:=tD.o;omega) H (by have:=cE.o;have:=rF.o;omega) (by have:=cE.o;have:=rF.o;omega)).mono ?_;rintro e W⟨rfl,x,vS,vC,hu,h⟩;obtain⟨Ck,oL,uO,uP,hw,xy,zW⟩: ∃(Ck:World) (oL:fT) (uO uP:Value),Ck=W/\Hid (aG Rz Ck {p with vL:=vz} oL uO uP)/\Hid (H<=oL.s.length/\(oL.code.length:Int)+oL.s.length+200*oL.left<=x0.code.length+x0.s.length+200*x0.left+62/\0<=oL.left/\oL.left<=x0.left):=⟨_,_,_,_,rfl,hd h,hd (by have:=rF.o;have:=tD.o;unfold Sh at hu;omega)⟩;rw[<-hw];clear hw wj rF;clear h hu
  all_goals
   obtain⟨yh,rfl⟩:=ex Ck;obtain⟨zT,rfl⟩:=ex oL;obtain⟨DK,rfl⟩:=ex uO;obtain⟨DL,rfl⟩:=ex uP;have rD:=xy;have zU:=zW;clear xy zW
 rotate_left 2
 case' _=>
  go_wp2_with fail
  refine(bY rD.o _ _ _ _ (by have:=cE.o;have:=zU.o;omega)).mono ?_;rintro e Gu⟨rfl,nw,ady,Vu,Pk,mL⟩;have ny:=hd mL;have Pm:=hd (show Up 0 1 zT nw from Pk);clear mL Pk;have zV:=hd (show H<=nw.s.length/\(nw.code.length:Int)+nw.s.length+200*nw.left<=x0.code.length+x0.s.length+200*x0.left+38/\0<=nw.left/\nw.left<=x0.left by have:=zU.o;have u:=Pm.o;unfold Up at u;omega);clear Pm zU rD
  go_wp2_with fail
  obtain⟨Iw,DM,Vv⟩:=Kd.ai ny.o.2.2.2.2.2.2.1;subst Vv;have d0:(0:Int)<=(H:Int):=by omega
  have F5:=hd (show H<=nw.s.length by have:=cE.o;have:=zV.o;omega);have d1:(H:Int)<=(DM:Int):=by have:=(ny.o.gC H F5.o).1;omega
  have sB:=hd (show(([]:List Int).length+H)*8<=140737488355328 by have:=F5.o;have:=cE.o;have:=zV.o;simp only[List.length_nil];omega);have sD:=hd (show(([]++nw.s.take H:List Int).length+T.f0.length)*8<=140737488355328 by have:=F5.o;have:=tD.o;have:=cE.o;have:=zV.o;simp only[List.nil_append,List.length_take];omega);have fJ:Gu.cell? ⟨p.g,12,none⟩=some (.slice Iw nw.s.length DM):=(aa ny.o.1 12).trans (jV ny.o.2.1 _ _ _);have t0:=(aa (ir.o _ (jW.o _ ny.o.get)).2 0).trans rfl
  go_wp2_with fail
  refine st 15 (fun w'=>w'.cell? ⟨p.g,12,none⟩=some (.slice Iw nw.s.length DM)/\w'.cell? ⟨Wb.heap.size,0,none⟩=some (.slice A9 T.f0.length c9)) [14] ⟨fJ,t0⟩ (fun ag=>?_);refine cZ 0 107 2 109 3 110 ?_;refine pu 4 111 ?_;refine tk 5 112 ag ?_;refine cZ 6 113 7 114 9 116 ?_;refine tk 10 117 ag ?_;refine on 1 (some 108) (fun K hK=>?_);rw[if_pos (by rfl)]
  go_simp
  refine hK.o _ _ ⟨ak ag.1,ak ag.2⟩ (fun ag=>?_);clear hK K;refine on 8 (some 115) (fun K hK=>?_);refine Kd.cr (Kd.int .i64) (w0:=Gu.drew) (W:=(Gu.drew.alloc (.cells #[] 3))) Gu.drew.heap.size (by rfl) (.tmp 108) (.tmp 114) 23 3 (.int .i64 0) 8 (by rfl) underlying23 cQ rfl (by decide) (by decide) (.slice (some ⟨Gu.drew.heap.size,0,none⟩) 0 0) [] (nw.s.take H) Iw H DM (fun _=>True) (fun _=>False) (by rfl) (by rfl) (dW (xs:= []) (alloc_at rfl) (aU _) (fN (by simp))) (Kd.aS (Kd.eL (ny.o.gC H F5.o).2) _) (fun _ _ h=>h) (fun _ h=>h.elim) (fun _ _=>trivial) (af (ay _ _) _) (by simp) sB.o ?_;intro v9 u1 hR hB hG hat;obtain⟨P9,k9,e9⟩:=Kd.ai hR;generalize ([]++nw.s.take H:List Int).length=n9 at e9;subst e9;have iK:=hd hR;have bE:=hd hB;clear hR hB hG hat;refine hK.o _ _ ⟨((bE.o.cell (aR _ _ fJ)).trans fJ),((bE.o.cell (aR _ _ t0)).trans t0)⟩ (fun ag=>?_);clear hK K;refine nm ?_;refine on 11 (some 118) (fun K hK=>?_);refine Kd.cr (Kd.int .i64) (w0:=Gu.drew) (W:=u1) Gu.drew.heap.size (by rfl) (.tmp 115) (.tmp 117) 23 3 (.int .i64 0) 8 (by rfl) underlying23 cQ rfl (by decide) (by decide) (.slice P9 n9 k9) ([]++nw.s.take H) T.f0 A9 T.f0.length c9 (fun _=>True) (fun _=>False) (by rfl) (by rfl) iK.o ((fun q=>(ir.o _ (jW.o _ q)).1.1.2) ((ny.o.drewN 1).below bE.o).get) (fun _ _ h=>h) (fun _ h=>h.elim) (fun _ _=>trivial) bE.o bE.o.size sD.o ?_;intro v8 u2 hR hB hG hat;obtain⟨P8,k8,e8⟩:=Kd.ai hR;generalize ([]++nw.s.take H++T.f0:List Int).length=n8 at e8;subst e8;have ia:=hd hR;have bw:=hd hB;clear hR hB hG hat;refine hK.o _ _ ⟨((bw.o.cell (aR _ _ fJ)).trans fJ),((bw.o.cell (aR _ _ t0)).trans t0)⟩ (fun ag=>?_);clear hK K;refine nm ?_;have z12:=(bw.o.cell (aR _ _ fJ)).trans fJ;have f12:u2.frozen? ⟨p.g,12,none⟩=false:=ah ((bw.o.block _ (aj ny.o.1)).trans ny.o.1) 12;refine pu2 12 119 13 120 ?_;refine la 14 ?_;refine dn ?_;have h9:aG Rz (World.setCell u2 ⟨p.g,12,none⟩ (.slice P8 n8 k8)) {p with vL:=vz} ⟨[]++nw.s.take H++T.f0,nw.code,nw.left,nw.pos⟩ _ _:=aG.uL (ny.o.drewN 1) bw.o ia.o;generalize World.setCell u2 ⟨p.g,12,none⟩ (.slice P8 n8 k8)=W15 at h9⊢;generalize Value.slice P8 n8 k8=adz at h9⊢;obtain⟨LI,hx⟩:=ex (fT.mk ([]++nw.s.take H++T.f0) nw.code nw.left nw.pos);rw[<-hx]at h9;have Iy:=hd h9;obtain⟨adA,rfl⟩:=ex Vu;have Pn:=hd (show H<=LI.s.length/\(LI.code.length:Int)+LI.s.length+200*LI.left<=x0.code.length+x0.s.length+200*x0.left+46/\0<=LI.left/\LI.left<=x0.left by have:=zV.o;have:=tD.o;subst hx;simp only[List.nil_append,List.length_append,List.length_take];omega);clear h9 hx fJ t0 z12 f12 d0 d1 F5 sB sD iK ia bE bw ny zV;have y0:W15.cell? ⟨p.g,0,none⟩=some (.pointer (some ⟨p.tb,0,none⟩)):=(aa Iy.o.1 0).trans (jU _ _ _ _)
  go_wp2_with fail
  clear y0;refine(bK Iy.o Gt.o 4 (by decide) (by decide)).mono ?_;rintro e W16⟨r16,q16,adC,adD,rfl,qp⟩;obtain⟨yj,adE,adF,rfl,rfl,Iz,Po⟩:=Ae qp;clear qp;have rE:=hd (show H<=yj.s.length/\(yj.code.length:Int)+yj.s.length+200*yj.left<=x0.code.length+x0.s.length+200*x0.left+46/\0<=yj.left/\yj.left<=x0.left by have:=Pn.o;have u:=Po.o;unfold Up at u;omega);clear Po Pn Iy
  go_wp2_with fail
  refine(HBO.o yj.left (by have:=cE.o;have:=rE.o;omega) (by have:=cE.o;have:=rE.o;omega) _ _ _ _ _ _ _ _ _ _ H _ Iz.o Gt.o LG.o gZ.o xx.o (by have:=cE.o;have:=rE.o;omega) rfl (by have:=cE.o;have:=rE.o;omega) (by have:=cE.o;have:=rE.o;omega)).mono ?_;rintro e Vw⟨b,rfl,SD,p17,Cj,Vx,Vy,⟨hr,⟨v17,rfl⟩,hl⟩,hu,YZ⟩;have wj:Hid (aG SD Vw {p with vL:=v17} Cj Vx Vy):=hd YZ;have zR:Hid (∀V,SD V->R9 V):=hd (fun V hV=>jW.o V (hr V hV));have zS:Hid (lR SD {p with vL:=v17} (n+1)):=hd hl;have rF:=hd (show H<=Cj.s.length/\(Cj.code.length:Int)+Cj.s.length+200*Cj.left<=x0.code.length+x0.s.length+200*x0.left+46/\0<=Cj.left/\Cj.left<=x0.left by have:=rE.o;unfold Pt at hu;omega);clear hr hl hu YZ rE Iz jW xx Gt LG;obtain⟨Rz,rfl⟩:=ex SD;obtain⟨vz,rfl⟩:=ex v17;have jW:=zR;have xx:=zS;clear zR zS;have Gt:Hid (dH Rz {p with vL:=vz}):=hd (dH.Lx (Fx.o.weak jW.o) vz);have LG:Hid (kf Rz {p with vL:=vz} M L S):=hd (kf.Lx (Qm.o.weak jW.o) vz);cases b
  case' false=>
   obtain⟨Ck,oL,uO,uP,hw,xy,zW⟩: ∃(Ck:World) (oL:fT) (uO uP:Value),Ck=Vw/\Hid (aG Rz Ck {p with vL:=vz} oL uO uP)/\Hid (H<=oL.s.length/\(oL.code.length:Int)+oL.s.length+200*oL.left<=x0.code.length+x0.s.length+200*x0.left+62/\0<=oL.left/\oL.left<=x0.left):=⟨_,_,_,_,rfl,wj,hd (by have:=rF.o;omega)⟩;rw[<-hw];clear hw wj rF
  rotate_left
  case' true=>
   have t1:=(aa (ir.o _ (jW.o _ wj.o.get)).2 1).trans rfl
   go_wp2_with fail
   clear t1;refine(rW wj.o Gt.o LG.o (by have:=gZ.o.hL;omega) (by have:=gZ.o.Bg;omega) i7 c10 T.f1 (fun V hV=>(ir.o V (jW.o V hV)).1.2) (by have:=tD.o;omega) H (by have:=cE.o;have:=rF.o;omega) (by have:=cE.o;have:=rF.o;omega)).mono ?_;rintro e W⟨rfl,x,vS,vC,hu,h⟩;obtain⟨Ck,oL,uO,uP,hw,xy,zW⟩: ∃(Ck:World) (oL:fT) (uO uP:Value),Ck=W/\Hid (aG Rz Ck {p with vL:=vz} oL uO uP)/\Hid (H<=oL.s.length/\(oL.code.length:Int)+oL.s.length+200*oL.left<=x0.code.length+x0.s.length+200*x0.left+62/\0<=oL.left/\oL.left<=x0.left):=⟨_,_,_,_,rfl,hd h,hd (by have:=rF.o;have:=tD.o;unfold Sh at hu;omega)⟩;rw[<-hw];clear hw wj rF;clear h hu
  all_goals
   obtain⟨yh,rfl⟩:=ex Ck;obtain⟨zT,rfl⟩:=ex oL;obtain⟨DK,rfl⟩:=ex uO;obtain⟨DL,rfl⟩:=ex uP;have rD:=xy;have zU:=zW;clear xy zW
 all_goals
  obtain⟨Q9,C1,hv⟩: ∃(Q9:Addr) (C1:Nat),vz= .slice (some Q9) (n+1) (n+1+C1):=by obtain⟨-,-,Q9,C1,-,-,-,hv,-⟩:=xx.o;exact⟨Q9,C1,hv⟩
  have Vz:=hd (xx.o.less HN.o.1 hv);subst hv;have HTx:Hid (dH Rz p):=hd (Fx.o.weak jW.o);clear Gt LG xx;obtain⟨N1,Wl⟩:=ex (n+1);obtain⟨C2,hC2⟩:=ex (n+1+C1);rw[<-hC2]at rD Vz;rw[<-Wl]at rD;have oA:yh.cell? ⟨p.g,13,none⟩=some (.slice (some Q9) N1 C2):=(aa rD.o.1 13).trans (rz rD.o.2.1 _ _ _);have f13:yh.frozen? ⟨p.g,13,none⟩=false:=ah rD.o.1 13;have a1:(N1:Int)-1=(n:Int):=by omega
  have b1:n<=4611686018427387904:=by have:=HN.o;omega
  have d0:(0:Int)<=(n:Int):=by omega
  have d1:(n:Int)<=(C2:Int):=by omega
  clear Wl hC2;have w1:=kg _ _ a1 b1;clear a1 b1
  go_wp2_with fail
  refine st 15 (fun w'=>w'.cell? ⟨p.g,13,none⟩=some (.slice (some Q9) N1 C2)) [14] oA (fun ag=>?_);refine cZ 0 134 1 135 2 136 ?_;refine pu 3 137 ?_;refine tk 4 138 ag ?_;refine cZ 5 139 6 140 7 141 ?_;refine tk 8 142 ag ?_;refine cZ 9 143 10 144 11 145 ?_;refine pu2 12 146 13 147 ?_;refine la 14 ?_;refine dn ?_;clear oA w1 d0 d1 f13;have h9:aG Rz (World.setCell yh ⟨p.g,13,none⟩ (.slice (some Q9) n C2)).drew {p with vL:= .slice (some Q9) n C2} zT DK DL:=aG.labels (rD.o.drewN 1) (.slice (some Q9) n C2);generalize (World.setCell yh ⟨p.g,13,none⟩ (.slice (some Q9) n C2)).drew=Y2 at h9⊢;obtain⟨vx,hvx⟩:=ex (Value.slice (some Q9) n C2);rw[<-hvx]at h9 Vz;clear hvx;obtain⟨TE,rfl⟩:=ex zT;obtain⟨adG,rfl⟩:=ex DK;obtain⟨Y3,rfl⟩:=ex DL;have Bl:=hd h9;have Pp:=zU;clear h9 zU rD
  go_wp2_with fail
  refine(bY Bl.o _ _ _ _ (by have:=cE.o;have:=Pp.o;omega)).mono ?_;rintro e VA⟨rfl,zX,aib,adH,Y4,Y5⟩;have zY:=hd Y5;have Y6:=hd (show Up 0 1 TE zX from Y4);clear Y5 Y4;have Pq:=hd (show H<=zX.s.length/\(zX.code.length:Int)+zX.s.length+200*zX.left<=x0.code.length+x0.s.length+200*x0.left+63/\0<=zX.left/\zX.left<=x0.left by have:=Pp.o;have u:=Y6.o;unfold Up at u;omega);clear Y6 Pp Bl
  go_wp2_with fail
  obtain⟨VB,SE,adI⟩:=Kd.ai zY.o.2.2.2.2.2.2.1;subst adI;have d0:(0:Int)<=(H:Int):=by omega
  have F5:=hd (show H<=zX.s.length by have:=cE.o;have:=Pq.o;omega);have d1:(H:Int)<=(SE:Int):=by have:=(zY.o.gC H F5.o).1;omega
  have sB:=hd (show(([]:List Int).length+H)*8<=140737488355328 by have:=F5.o;have:=cE.o;have:=Pq.o;simp only[List.length_nil];omega);have sD:=hd (show(([]++zX.s.take H:List Int).length+T.f1.length)*8<=140737488355328 by have:=F5.o;have:=tD.o;have:=cE.o;have:=Pq.o;simp only[List.nil_append,List.length_take];omega);have fJ:VA.cell? ⟨p.g,12,none⟩=some (.slice VB zX.s.length SE):=(aa zY.o.1 12).trans (jV zY.o.2.1 _ _ _);have t1:=(aa (ir.o _ (jW.o _ zY.o.get)).2 1).trans rfl
  go_wp2_with fail
  refine st 15 (fun w'=>w'.cell? ⟨p.g,12,none⟩=some (.slice VB zX.s.length SE)/\w'.cell? ⟨Wb.heap.size,1,none⟩=some (.slice i7 T.f1.length c10)) [14] ⟨fJ,t1⟩ (fun ag=>?_);refine cZ 0 151 2 153 3 154 ?_;refine pu 4 155 ?_;refine tk 5 156 ag ?_;refine cZ 6 157 7 158 9 160 ?_;refine tk 10 161 ag ?_;refine on 1 (some 152) (fun K hK=>?_);rw[if_pos (by rfl)]
  go_simp
  refine hK.o _ _ ⟨ak ag.1,ak ag.2⟩ (fun ag=>?_);clear hK K;refine on 8 (some 159) (fun K hK=>?_);refine Kd.cr (Kd.int .i64) (w0:=VA.drew) (W:=(VA.drew.alloc (.cells #[] 3))) VA.drew.heap.size (by rfl) (.tmp 152) (.tmp 158) 23 3 (.int .i64 0) 8 (by rfl) underlying23 cQ rfl (by decide) (by decide) (.slice (some ⟨VA.drew.heap.size,0,none⟩) 0 0) [] (zX.s.take H) VB H SE (fun _=>True) (fun _=>False) (by rfl) (by rfl) (dW (xs:= []) (alloc_at rfl) (aU _) (fN (by simp))) (Kd.aS (Kd.eL (zY.o.gC H F5.o).2) _) (fun _ _ h=>h) (fun _ h=>h.elim) (fun _ _=>trivial) (af (ay _ _) _) (by simp) sB.o ?_;intro v9 u1 hR hB hG hat;obtain⟨P9,k9,e9⟩:=Kd.ai hR;generalize ([]++zX.s.take H:List Int).length=n9 at e9;subst e9;have iK:=hd hR;have bE:=hd hB;clear hR hB hG hat;refine hK.o _ _ ⟨((bE.o.cell (aR _ _ fJ)).trans fJ),((bE.o.cell (aR _ _ t1)).trans t1)⟩ (fun ag=>?_);clear hK K;refine nm ?_;refine on 11 (some 162) (fun K hK=>?_);refine Kd.cr (Kd.int .i64) (w0:=VA.drew) (W:=u1) VA.drew.heap.size (by rfl) (.tmp 159) (.tmp 161) 23 3 (.int .i64 0) 8 (by rfl) underlying23 cQ rfl (by decide) (by decide) (.slice P9 n9 k9) ([]++zX.s.take H) T.f1 i7 T.f1.length c10 (fun _=>True) (fun _=>False) (by rfl) (by rfl) iK.o ((fun q=>(ir.o _ (jW.o _ q)).1.2) ((zY.o.drewN 1).below bE.o).get) (fun _ _ h=>h) (fun _ h=>h.elim) (fun _ _=>trivial) bE.o bE.o.size sD.o ?_;intro v8 u2 hR hB hG hat;obtain⟨P8,k8,e8⟩:=Kd.ai hR;generalize ([]++zX.s.take H++T.f1:List Int).length=n8 at e8;subst e8;have ia:=hd hR;have bw:=hd hB;clear hR hB hG hat;refine hK.o _ _ ⟨((bw.o.cell (aR _ _ fJ)).trans fJ),((bw.o.cell (aR _ _ t1)).trans t1)⟩ (fun ag=>?_);clear hK K;refine nm ?_;have z12:=(bw.o.cell (aR _ _ fJ)).trans fJ;have f12:u2.frozen? ⟨p.g,12,none⟩=false:=ah ((bw.o.block _ (aj zY.o.1)).trans zY.o.1) 12;refine pu2 12 163 13 164 ?_;refine la 14 ?_;refine dn ?_;have h9:aG Rz (World.setCell u2 ⟨p.g,12,none⟩ (.slice P8 n8 k8)) {p with vL:=vx} ⟨[]++zX.s.take H++T.f1,zX.code,zX.left,zX.pos⟩ _ _:=aG.uL (zY.o.drewN 1) bw.o ia.o;generalize World.setCell u2 ⟨p.g,12,none⟩ (.slice P8 n8 k8)=W22 at h9⊢;generalize Value.slice P8 n8 k8=aic at h9⊢;obtain⟨VC,hx⟩:=ex (fT.mk ([]++zX.s.take H++T.f1) zX.code zX.left zX.pos);rw[<-hx]at h9;have adJ:=hd h9;obtain⟨aid,rfl⟩:=ex adH;have adK:=hd (show H<=VC.s.length/\(VC.code.length:Int)+VC.s.length+200*VC.left<=x0.code.length+x0.s.length+200*x0.left+71/\0<=VC.left/\VC.left<=x0.left by have:=Pq.o;have:=tD.o;subst hx;simp only[List.nil_append,List.length_append,List.length_take];omega);clear h9 hx fJ t1 z12 f12 d0 d1 F5 sB sD iK ia bE bw zY Pq
  go_wp2_with fail
  go_end0
  exact⟨rfl,Rz,_,VC,_,_,⟨fun V hV=>(ir.o V (jW.o V hV)).1.1.1,⟨vx,rfl⟩,Vz.o⟩,(by have:=adK.o;have:=HHH.o;unfold Pt;omega),adJ.o⟩
theorem Pr: ∀(k:Nat) (l:Int),l.toNat<=k->0<=l->JN l:=by
 intro k
 have blk: ∀(l:Int),(∀l',0<=l'->l'<=l->JN l')->Ip l:=fun l hB R w p x vS vC M L S n height hg hT hE hM hL hh hl h0 hs=>by
  subst hl;exact LF hg hT hE hM hL height hh h0 hs hB
 induction k with
 |zero=>
  intro l h1 h2 R w p x vS vC M L S n height cnt hg hT hE hM hL hh hl h0 hs;subst hl;exact F4 hg hT hE hM hL height cnt hh h0 hs (fun l' a b=>absurd b (by omega))
 |succ k ih=>
  intro l h1 h2 R w p x vS vC M L S n height cnt hg hT hE hM hL hh hl h0 hs;subst hl;exact F4 hg hT hE hM hL height cnt hh h0 hs (fun l' a b=>DC (blk l' (fun l'' c d=>ih l'' (by omega) c)))
theorem Pu(l:Int)(h:0<=l):JN l:=Pr l.toNat l (aU _) h
end Go.Proofs.YthehihjcpiadgaaGreat
