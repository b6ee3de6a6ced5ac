import Derived.Test.YthehihjcpiadgaaGreatCheckMadeK1
set_option maxRecDepth 100000
set_option maxHeartbeats 0
set_option linter.all false
open Go.Proofs.Tryz
namespace Go.Proofs.YthehihjcpiadgaaGreat
open Go.RowKit Go.Proofs.Wz.PrintWords Go.Proofs.Wz.bM
theorem FZ{W:World}{n:Nat}{xs:List Int}(h:W.heap[n]? =some (.cells (encs (Value.int .i64) xs).toArray 3 (0,0)))(hm:xs.length<=1000000):bf W (some ⟨n,0,none⟩) xs:=(Kd.bA (dW h (Nat.zero_le _) (fN hm))).2.2
theorem JK(W:World):bf W none []:=(Kd.bA (Kd.fS (Kd.int .i64) 3 W 0 (fun _=>True))).2.2
theorem Im{R:World->Prop}{w:World}{p:GP}{x:fT}{vS vC:Value}(h:aG R w p x vS vC)(hT:dH R p){M:bL}{L:List Int}{S:ig}(hE:kf R p M L S)(hM:jq M L S)(height:Nat)(hh:height<=x.s.length)(hs:x.code.length+x.s.length+100<=1000000):Calls prog 110 #[.pointer (some ⟨p.g,0,none⟩),.int .i64 height] w (uJ R p (.tuple #[]) (On 40 height x)):=by
 obtain⟨W0,rfl⟩:=ex w;obtain⟨x0,rfl⟩:=ex x;obtain⟨Du,rfl⟩:=ex vS;obtain⟨Cc,rfl⟩:=ex vC;have cn:=hd h;have HT:=hd hT;clear h hT;have HE:=hd hE;obtain⟨w0,A0,c0,A1,c1,A2,c2,A3,c3,A4,c4,A5,c5,A6,c6,A7,c7,AL,cL,AS,cS,AR,cR,iR,Cf,Cg⟩:=hE;have iL:=hd iR;have OY:=hd Cf;have Af:=hd Cg;clear iR Cf Cg;have gZ:=hd hM;have HB:=hd hs;have HH:=hd hh;clear hM hs hh;have y4:=gy cn.o iL.o 4 3;by_cases hz:M.f3.length=0
 ·have hz1:((M.f3.length:Int)==0)=true:=by simp[hz]
  clear hz
  go_enter func110,ntmps110
  go_wp2_with fail
  go_end0
  exact⟨rfl,x0,_,_,⟨HH.o,by omega,rfl⟩,cn.o⟩
 ·have hz1:((M.f3.length:Int)==0)=false:=by simp;exact fun e=>hz (by simp[e])
  have HZ:=hd (show 0<M.f3.length/\M.f3.length<=1000 by have:=gZ.o.h3;omega);clear hz
  go_enter func110,ntmps110
  go_wp2_with fail
  clear y4 hz1;have y0:=(aa cn.o.1 0).trans (jU _ _ _ _);have y4:=gy cn.o iL.o 4 3;refine st 12 (fun w'=>w'.cell? ⟨p.g,0,none⟩=some (.pointer (some ⟨p.tb,0,none⟩))/\w'.cell? ⟨p.g,4,none⟩=some (.slice A3 M.f3.length c3)) [] ⟨y0,y4⟩ (fun ag=>?_);refine cZ 0 17 1 18 2 19 ?_;refine tk 3 20 ag ?_;refine cZ 4 21 5 22 6 23 ?_;refine pu 7 24 ?_;refine tk 8 25 ag ?_;refine pu 9 26 ?_;refine on 10 (some 27) (fun K hK=>?_);refine ge (bK (cn.o.drewN 1) HT.o (M.f3.length:Int) (by have:=HZ.o;omega) (by have:=HZ.o;omega)) ?_;rintro e W1⟨r1,q1,Dv,Dw,rfl,h1⟩;obtain⟨x1,bE,fP⟩:=Mf h1;clear h1;refine⟨_,rfl,?_⟩;refine hK.o _ _ ⟨((aa bE.o.1 0).trans (jU _ _ _ _)),((gy bE.o iL.o 4 3))⟩ (fun ag=>?_);clear hK K;refine nm ?_;refine pu 11 4 ?_;refine dn ?_;clear y0 y4;obtain⟨Bd,rfl⟩:=ex Du;obtain⟨Be,rfl⟩:=ex Cc;clear Dv Dw;have hb:=bE.o.box #[.int .i64 40,.int .i64 41,.int .i64 43,.int .i64 44,.int .i64 45,.int .i64 46,.int .i64 47,.int .i64 48,.int .i64 49,.int .i64 50,.int .i64 51,.int .i64 52,.int .i64 53,.int .i64 54,.int .i64 55,.int .i64 57,.int .i64 58,.int .i64 59,.int .i64 60,.int .i64 61,.int .i64 62,.int .i64 63,.int .i64 64] 3;have y0:=(aa hb.1 0).trans (jU _ _ _ _)
  go_wp2_with fail
  clear y0;refine(bK hb (HT.o.weak (fun W hW=>hW.1)) 23 (by decide) (by decide)).mono ?_;rintro e W2⟨r2,q2,r0,r1,rfl,h2⟩;have hq:=(aa h2.get.2 r2.toNat).trans (pQ [40,41,43,44,45,46,47,48,49,50,51,52,53,54,55,57,58,59,60,61,62,63,64] r2.toNat (by simp;omega));obtain⟨x2,hx2⟩:=ex (fT.mk x1.s x1.code x1.left q2);rw[<-hx2]at h2;have bw:=hd (h2.weak (fun W hW=>hW.1));have ep:=hd (show Up 0 0 x1 x2 by subst hx2;exact⟨rfl,rfl,rfl⟩);clear h2 hx2 hb;obtain⟨Bf,rfl⟩:=ex Bd;obtain⟨yb,rfl⟩:=ex Be;obtain⟨v2,hv2⟩:=ex (([40,41,43,44,45,46,47,48,49,50,51,52,53,54,55,57,58,59,60,61,62,63,64]:List Int)[r2.toNat]?.getD 0);rw[<-hv2]at hq;clear hv2
  go_wp2_with fail
  clear hq;refine(Eu v2 W2).mono ?_;rintro e w'⟨rfl,rfl⟩;clear r0 r1;by_cases h63:v2=63
  ·have g63:(v2==63)=true:=by simp[h63]
   clear h63
   go_wp2_with fail
   refine(bY bw.o _ _ _ _ (by have:=HB.o;have:=HH.o;have u:=(fP.o.trans ep.o);unfold Up at u;omega)).mono ?_;rintro e W3⟨rfl,x3,qi,nZ,nu,h3⟩;have cC:=hd h3;have gu:=hd (show Up 0 1 x2 x3 from nu);clear h3 nu;have WB:=hd (show x3.s.length<=1000000 by have:=HB.o;have:=HH.o;have u:=((fP.o.trans ep.o).trans gu.o);unfold Up at u;omega);obtain⟨Sl,OZ,Vf⟩:=Kd.ai cC.o.2.2.2.2.2.2.1;subst Vf;have fJ:=(aa cC.o.1 12).trans (jV cC.o.2.1 _ _ _)
   go_wp2_with (first|(at_builtin;(refine Kd.fc (Kd.int .i64) (w0:=W3) 0 rfl (.tmp 75) (.tmp 76) 23 3 (.int .i64 0) 8 rfl underlying23 cQ rfl (dG 0) (dG 7) (Value.slice Sl x3.s.length OZ) x3.s 127 [.int .i64 127] (fun k=>(k≠p.g/\k≠p.tb)/\some k≠nZ.ownBlock) (fun k=>((k≠p.g/\k≠p.tb)/\some k≠nZ.ownBlock)/\some k≠(Value.slice Sl x3.s.length OZ).ownBlock) rfl rfl rfl (fun _ hk=>hk) cC.o.tr cC.o.2.2.2.2.2.2.1 ⟨rfl,rfl,rfl,aU _,fun _ _=>rfl⟩ (Nat.zero_le _) (len8 WB.o) ?_);intro v9 w9 hR hB hG hat;obtain⟨P9,k9,e9⟩:=Kd.ai hR;generalize (x3.s++ [127]).length=n9 at e9;subst e9;have hgb:=bD cC.o.1 hG cC.o.Ii;have z0:=(aa hgb 0).trans (jU _ _ _ _);have z12:=(aa hgb 12).trans (jV cC.o.2.1 _ _ _);have f12:=ah hgb 12;have HG:=hd hG;have Ac:=hd hat;have ir:=hd hR;clear hG hat hR hB hgb))
   have h9:=aG.types cC.o HG.o Ac.o ir.o;clear fJ z12 z0 f12;generalize w9.setCell ⟨p.g,12,none⟩ (.slice P9 n9 k9)=W4 at h9⊢;generalize Value.slice P9 n9 k9=yc at h9;obtain⟨x4,MI⟩:=ex (fT.mk (x3.s++ [127]) x3.code x3.left x3.pos);rw[<-MI]at h9;obtain⟨rV,rfl⟩:=ex nZ;have bP:=hd h9;have gX:=hd (show Up 1 0 x3 x4 by subst MI;exact⟨by simp,rfl,rfl⟩);clear h9 MI
   go_end0
   exact⟨rfl,_,_,_,(by have:=HH.o;have u:=(((fP.o.trans ep.o).trans gu.o).trans gX.o);unfold Up at u;exact⟨by omega,by omega,by omega⟩),bP.o⟩
  have g63:(v2==63)=false:=by simpa using h63
  clear h63;by_cases G7:v2=64
  ·have g64:(v2==64)=true:=by simp[G7]
   clear G7;have y0:=(aa bw.o.1 0).trans (jU _ _ _ _)
   go_wp2_with fail
   refine(bK bw.o HT.o 3 (by decide) (by decide)).mono ?_;rintro e W3⟨r3,q3,Vd,Ve,rfl,h3⟩;obtain⟨x3,qi,nZ,rfl,rfl,cC,gu⟩:=Ae h3;clear h3;clear y0
   go_wp2_with fail
   refine(bY cC.o _ _ _ _ (by have:=HB.o;have:=HH.o;have u:=((fP.o.trans ep.o).trans gu.o);unfold Up at u;omega)).mono ?_;rintro e W4⟨rfl,x4,yc,rV,oz,h4⟩;have bP:=hd h4;have gX:=hd (show Up 0 1 x3 x4 from oz);clear h4 oz
   go_wp2_with fail
   refine(bY bP.o _ _ _ _ (by have:=HB.o;have:=HH.o;have u:=(((fP.o.trans ep.o).trans gu.o).trans gX.o);unfold Up at u;omega)).mono ?_;rintro e W5⟨rfl,x5,ye,uW,pR,h5⟩;have gI:=hd h5;have kI:=hd (show Up 0 1 x4 x5 from pR);clear h5 pR;have RV:=hd (show x5.s.length<=1000000 by have:=HB.o;have:=HH.o;have u:=((((fP.o.trans ep.o).trans gu.o).trans gX.o).trans kI.o);unfold Up at u;omega);obtain⟨Vl,Ty,es5⟩:=Kd.ai gI.o.2.2.2.2.2.2.1;subst es5;have fJ:=(aa gI.o.1 12).trans (jV gI.o.2.1 _ _ _)
   go_wp2_with (first|(at_builtin;(refine Kd.fc (Kd.int .i64) (w0:=W5) 0 rfl (.tmp 101) (.tmp 102) 23 3 (.int .i64 0) 8 rfl underlying23 cQ rfl (dG 0) (dG 7) (Value.slice Vl x5.s.length Ty) x5.s 127 [.int .i64 127] (fun k=>(k≠p.g/\k≠p.tb)/\some k≠uW.ownBlock) (fun k=>((k≠p.g/\k≠p.tb)/\some k≠uW.ownBlock)/\some k≠(Value.slice Vl x5.s.length Ty).ownBlock) rfl rfl rfl (fun _ hk=>hk) gI.o.tr gI.o.2.2.2.2.2.2.1 ⟨rfl,rfl,rfl,aU _,fun _ _=>rfl⟩ (Nat.zero_le _) (len8 RV.o) ?_);intro v9 w9 hR hB hG hat;obtain⟨P9,k9,e9⟩:=Kd.ai hR;generalize (x5.s++ [127]).length=n9 at e9;subst e9;have hgb:=bD gI.o.1 hG gI.o.Ii;have z0:=(aa hgb 0).trans (jU _ _ _ _);have z12:=(aa hgb 12).trans (jV gI.o.2.1 _ _ _);have f12:=ah hgb 12;have HG:=hd hG;have Ac:=hd hat;have ir:=hd hR;clear hG hat hR hB hgb))
   have h9:=aG.types gI.o HG.o Ac.o ir.o;clear fJ z12 z0 f12;generalize w9.setCell ⟨p.g,12,none⟩ (.slice P9 n9 k9)=W6 at h9⊢;generalize Value.slice P9 n9 k9=O7 at h9;obtain⟨x6,F2⟩:=ex (fT.mk (x5.s++ [127]) x5.code x5.left x5.pos);rw[<-F2]at h9;obtain⟨O8,rfl⟩:=ex uW;have oa:=hd h9;have Dz:=hd (show Up 1 0 x5 x6 by subst F2;exact⟨by simp,rfl,rfl⟩);clear h9 F2
   go_end0
   exact⟨rfl,_,_,_,(by have:=HH.o;have u:=(((((fP.o.trans ep.o).trans gu.o).trans gX.o).trans kI.o).trans Dz.o);unfold Up at u;exact⟨by omega,by omega,by omega⟩),oa.o⟩
  have g64:(v2==64)=false:=by simpa using G7
  clear G7;cases hst:Sp.within v2 54 62 with
  |true=>
   have HST:=hd hst;clear hst
   go_wp2_with fail
   refine(yH v2 W2).mono ?_;rintro e w'⟨rfl,rfl⟩;rw[HST.o]
   go_wp2_with fail
   refine(uK bw.o HT.o (by have:=HB.o;have:=HH.o;have u:=(fP.o.trans ep.o);unfold Up at u;omega) (by have:=HB.o;have:=HH.o;have u:=(fP.o.trans ep.o);unfold Up at u;omega)).mono ?_;rintro e W3⟨rfl,x3,qi,nZ,nu,h3⟩;have cC:=hd h3;have gu:=hd (show Up 1 1 x2 x3 from nu);clear h3 nu
   go_wp2_with fail
   refine(j7 cC.o HT.o HE.o (by have:=gZ.o.hL;omega) (by have:=gZ.o.Bg;omega) (Sp.jX v2) (by have:=HB.o;have:=HH.o;have u:=((fP.o.trans ep.o).trans gu.o);unfold Up at u;omega) (by have:=HB.o;have:=HH.o;have u:=((fP.o.trans ep.o).trans gu.o);unfold Up at u;omega)).mono ?_;rintro e W4⟨rfl,x4,yc,rV,oz,h4⟩;have bP:=hd h4;have gX:=hd (show Up 1 1 x3 x4 from oz);clear h4 oz;have y0:=(aa bP.o.1 0).trans (jU _ _ _ _)
   go_wp2_with fail
   refine(bK bP.o HT.o 20 (by decide) (by decide)).mono ?_;rintro e W5⟨r5,q5,rr5,rs5,rfl,h5⟩;obtain⟨x5,ye,uW,rfl,rfl,gI,kI⟩:=Ae h5;clear h5;clear y0
   go_wp2_with fail
   refine(bY gI.o _ _ _ _ (by have:=HB.o;have:=HH.o;have u:=((((fP.o.trans ep.o).trans gu.o).trans gX.o).trans kI.o);unfold Up at u;omega)).mono ?_;rintro e W6⟨rfl,x6,O7,O8,DA,h6⟩;have oa:=hd h6;have Dz:=hd (show Up 0 1 x5 x6 from DA);clear h6 DA
   go_wp2_with fail
   refine(lQ (oa.o.alloc _) HT.o _ 2 2 (by have:=HB.o;have:=HH.o;have u:=(((((fP.o.trans ep.o).trans gu.o).trans gX.o).trans kI.o).trans Dz.o);unfold Up at u;omega) none 0 [] (fun W hW=>JK W) (by decide) (by have:=HB.o;have:=HH.o;have u:=(((((fP.o.trans ep.o).trans gu.o).trans gX.o).trans kI.o).trans Dz.o);unfold Up at u;omega)).mono ?_;rintro e W7⟨rfl,x7,vS7,Tz,TA,h7⟩
   go_wp2_with fail
   go_end0
   exact⟨rfl,x7,_,_,(by have:=HH.o;have u:=(((((fP.o.trans ep.o).trans gu.o).trans gX.o).trans kI.o).trans Dz.o);unfold Up at u;unfold Sw at TA;simp only[List.length_nil]at TA;exact⟨by omega,by omega,by omega⟩),h7⟩
  |false=>
   have HST:=hd hst;clear hst
   go_wp2_with fail
   refine(yH v2 W2).mono ?_;rintro e w'⟨rfl,rfl⟩;rw[HST.o]
   go_wp2_with fail
   refine(uK bw.o HT.o (by have:=HB.o;have:=HH.o;have u:=(fP.o.trans ep.o);unfold Up at u;omega) (by have:=HB.o;have:=HH.o;have u:=(fP.o.trans ep.o);unfold Up at u;omega)).mono ?_;rintro e W3⟨rfl,x3,qi,nZ,nu,h3⟩;have cC:=hd h3;have gu:=hd (show Up 1 1 x2 x3 from nu);clear h3 nu;have y0:=(aa cC.o.1 0).trans (jU _ _ _ _)
   go_wp2_with fail
   refine(bK cC.o HT.o 20 (by decide) (by decide)).mono ?_;rintro e W4⟨r4,q4,rr4,rs4,rfl,h4⟩;obtain⟨x4,yc,rV,rfl,rfl,bP,gX⟩:=Ae h4;clear h4;clear y0
   go_wp2_with fail
   refine(bY bP.o _ _ _ _ (by have:=HB.o;have:=HH.o;have u:=(((fP.o.trans ep.o).trans gu.o).trans gX.o);unfold Up at u;omega)).mono ?_;rintro e W5⟨rfl,x5,ye,uW,pR,h5⟩;have gI:=hd h5;have kI:=hd (show Up 0 1 x4 x5 from pR);clear h5 pR
   go_wp2_with fail
   have hb:=(gI.o.alloc (.cells #[.int .i64 127] 3)).box #[.int .i64 (Sp.jX v2)] 3;have es:(W5.alloc (.cells #[.int .i64 127] 3)).heap.size=W5.heap.size+1:=by simp
   rw[es]at hb;refine(lQ hb (HT.o.weak (fun W hW=>hW.1)) _ 1 1 (by have:=HB.o;have:=HH.o;have u:=((((fP.o.trans ep.o).trans gu.o).trans gX.o).trans kI.o);unfold Up at u;omega) (some ⟨W5.heap.size+1,0,none⟩) 1 [Sp.jX v2] (fun W hW=>FZ (xs:= [Sp.jX v2]) hW.2 (by simp)) (by simp) (by have:=HB.o;have:=HH.o;have u:=((((fP.o.trans ep.o).trans gu.o).trans gX.o).trans kI.o);unfold Up at u;omega)).mono ?_;rintro e W6⟨rfl,x6,O7,O8,DA,h6⟩
   go_wp2_with fail
   go_end0
   exact⟨rfl,x6,_,_,(by have:=HH.o;have u:=((((fP.o.trans ep.o).trans gu.o).trans gX.o).trans kI.o);unfold Up at u;unfold Sw at DA;simp only[List.length_cons,List.length_nil]at DA;exact⟨by omega,by omega,by omega⟩),h6.weak (fun W hW=>hW.1)⟩
theorem O9{R:World->Prop}{w:World}{p:GP}{x:fT}{vS vC:Value}(h:aG R w p x vS vC)(hT:dH R p){M:bL}{L:List Int}{S:ig}(hE:kf R p M L S)(hM:jq M L S)(height:Nat)(hh:height<=x.s.length)(hs:x.code.length+x.s.length+100<=1000000):Calls prog 111 #[.pointer (some ⟨p.g,0,none⟩),.int .i64 height] w (uJ R p (.tuple #[]) (On 40 height x)):=by
 obtain⟨W0,rfl⟩:=ex w;obtain⟨x0,rfl⟩:=ex x;obtain⟨Du,rfl⟩:=ex vS;obtain⟨Cc,rfl⟩:=ex vC;have cn:=hd h;have HT:=hd hT;clear h hT;have HE:=hd hE;obtain⟨w0,A0,c0,A1,c1,A2,c2,A3,c3,A4,c4,A5,c5,A6,c6,A7,c7,AL,cL,AS,cS,AR,cR,iR,Cf,Cg⟩:=hE;have iL:=hd iR;have OY:=hd Cf;have Af:=hd Cg;clear iR Cf Cg;have gZ:=hd hM;have HB:=hd hs;have HH:=hd hh;clear hM hs hh;have y4:=gy cn.o iL.o 4 3;by_cases hz:M.f3.length=0
 ·have hz1:((M.f3.length:Int)==0)=true:=by simp[hz]
  clear hz
  go_enter func111,ntmps111
  go_wp2_with fail
  go_end0
  exact⟨rfl,x0,_,_,⟨HH.o,by omega,rfl⟩,cn.o⟩
 ·have hz1:((M.f3.length:Int)==0)=false:=by simp;exact fun e=>hz (by simp[e])
  have HZ:=hd (show(0<M.f3.length/\M.f3.length<=1000)/\0<M.f6.length/\M.f6.length<=1000 by have:=gZ.o.h3;have:=gZ.o.h6;have:=gZ.o.Ad;omega);clear hz
  go_enter func111,ntmps111
  go_wp2_with fail
  clear y4 hz1;have y0:=(aa cn.o.1 0).trans (jU _ _ _ _);have y4:=gy cn.o iL.o 4 3;refine st 24 (fun w'=>w'.cell? ⟨p.g,0,none⟩=some (.pointer (some ⟨p.tb,0,none⟩))/\w'.cell? ⟨p.g,4,none⟩=some (.slice A3 M.f3.length c3)) [] ⟨y0,y4⟩ (fun ag=>?_);refine cZ 0 14 1 15 2 16 ?_;refine tk 3 17 ag ?_;refine cZ 4 18 5 19 6 20 ?_;refine pu 7 21 ?_;refine tk 8 22 ag ?_;refine cZ 9 23 11 25 12 26 ?_;refine pu 13 27 ?_;refine tk 14 28 ag ?_;refine cZ 15 29 16 30 17 31 ?_;refine pu 18 32 ?_;refine tk 19 33 ag ?_;refine pu 20 34 ?_;refine on 10 (some 24) (fun K hK=>?_);refine ge (bK (cn.o.drewN 1) HT.o (M.f3.length:Int) (by have:=HZ.o;omega) (by have:=HZ.o;omega)) ?_;rintro e W1⟨r1,q1,Dv,Dw,rfl,h1⟩;obtain⟨x1,bE,fP⟩:=Mf h1;clear h1;have iK:=hd (And.intro Dv Dw);clear Dv Dw;obtain⟨Bd,rfl⟩:=ex Du;obtain⟨Be,rfl⟩:=ex Cc;refine⟨_,rfl,?_⟩;refine hK.o _ _ ⟨((aa bE.o.1 0).trans (jU _ _ _ _)),((gy bE.o iL.o 4 3))⟩ (fun ag=>?_);clear hK K;refine nm ?_;refine on 21 (some 35) (fun K hK=>?_);refine ge (bK bE.o HT.o (M.f3.length:Int) (by have:=HZ.o;omega) (by have:=HZ.o;omega)) ?_;rintro e W2⟨r2,q2,D9,FT,rfl,h2⟩;obtain⟨x2,bw,ep⟩:=Mf h2;clear h2;have ia:=hd (And.intro D9 FT);clear D9 FT;obtain⟨Bf,rfl⟩:=ex Bd;obtain⟨yb,rfl⟩:=ex Be;refine⟨_,rfl,?_⟩;refine hK.o _ _ ⟨((aa bw.o.1 0).trans (jU _ _ _ _)),((gy bw.o iL.o 4 3))⟩ (fun ag=>?_);clear hK K;refine nm ?_;refine pu2 22 4 23 5 ?_;refine dn ?_;clear y0 y4;have y0:=(aa bw.o.1 0).trans (jU _ _ _ _)
  go_wp2_with fail
  refine(bK bw.o HT.o 4 (by decide) (by decide)).mono ?_;rintro e W3⟨r3,q3,Vd,Ve,rfl,h3⟩;obtain⟨x3,qi,nZ,rfl,rfl,cC,gu⟩:=Ae h3;clear h3;clear y0;clear Vd Ve;by_cases h1:wrap64 (64520+r3)=64521
  ·have g1:(wrap64 (64520+r3)==64521)=true:=by rw[h1];rfl
   clear h1
   go_wp2_with fail
   clear g1;generalize wrap64 (64520+r3)=op;have y0:=(aa cC.o.1 0).trans (jU _ _ _ _);have y7:=gy cC.o iL.o 7 6;refine st 15 (fun w'=>w'.cell? ⟨p.g,0,none⟩=some (.pointer (some ⟨p.tb,0,none⟩))/\w'.cell? ⟨p.g,7,none⟩=some (.slice A6 M.f6.length c6)) [] ⟨y0,y7⟩ (fun ag=>?_);refine cZ 0 44 1 45 2 46 ?_;refine pu2 3 47 4 48 ?_;refine tk 5 49 ag ?_;refine cZ 6 50 7 51 8 52 ?_;refine pu 9 53 ?_;refine tk 10 54 ag ?_;refine pu 11 55 ?_;refine on 12 (some 56) (fun K hK=>?_);refine ge (bK (cC.o.drewN 1) HT.o (M.f6.length:Int) (by have:=HZ.o;omega) (by have:=HZ.o;omega)) ?_;rintro e W4⟨r4,q4,rr4,rs4,rfl,h4⟩;obtain⟨x4,bP,gX⟩:=Mf h4;clear h4;have Wq:=hd (And.intro rr4 rs4);clear rr4 rs4;obtain⟨yc,rfl⟩:=ex qi;obtain⟨rV,rfl⟩:=ex nZ;refine⟨_,rfl,?_⟩;refine hK.o _ _ ⟨((aa bP.o.1 0).trans (jU _ _ _ _)),((gy bP.o iL.o 7 6))⟩ (fun ag=>?_);clear hK K;refine nm ?_;refine pu 13 57 ?_;refine on 14 (some 58) (fun K hK=>?_);refine ge (bY bP.o _ _ _ _ (by have:=HB.o;have:=HH.o;have u:=(((fP.o.trans ep.o).trans gu.o).trans gX.o);unfold Up at u;omega)) ?_;rintro e W5⟨rfl,x5,ye,uW,pR,h5⟩;have gI:=hd h5;have kI:=hd (show Up 0 1 x4 x5 from pR);clear h5 pR;refine⟨_,rfl,?_⟩;refine hK.o _ _ ⟨((aa gI.o.1 0).trans (jU _ _ _ _)),((gy gI.o iL.o 7 6))⟩ (fun ag=>?_);clear hK K;refine nm ?_;refine dn ?_;clear y0 y7
   go_wp2_with fail
   go_end0
   exact⟨rfl,_,_,_,(by have:=HB.o;have:=HH.o;have u1:=fP.o;have u2:=ep.o;have u3:=gu.o;have u4:=gX.o;have u5:=kI.o;unfold Up at *;exact⟨by omega,by omega,by omega⟩),gI.o⟩
  have g1:(wrap64 (64520+r3)==64521)=false:=by simpa using h1
  clear h1
  go_wp2_with fail
  clear g1;generalize wrap64 (64520+r3)=op;refine(uK cC.o HT.o (by have:=HB.o;have:=HH.o;have u1:=fP.o;have u2:=ep.o;have u3:=gu.o;unfold Up at *;omega) (by have:=HB.o;have:=HH.o;have u1:=fP.o;have u2:=ep.o;have u3:=gu.o;unfold Up at *;omega)).mono ?_;rintro e W4⟨rfl,x4,yc,rV,oz,h4⟩;have bP:=hd h4;have gX:=hd (show Up 1 1 x3 x4 from oz);clear h4 oz;by_cases h0:op=64520
  ·have g0:(op==64520)=true:=by simp[h0]
   clear h0;have y0:=(aa bP.o.1 0).trans (jU _ _ _ _)
   go_wp2_with fail
   refine(bK bP.o HT.o 6 (by decide) (by decide)).mono ?_;rintro e W5⟨r5,q5,rr5,rs5,rfl,h5⟩;obtain⟨x5,ye,uW,rfl,rfl,gI,kI⟩:=Ae h5;clear h5;clear y0 g0
   go_wp2_with fail
   refine(bY gI.o _ _ _ _ (by have:=HB.o;have:=HH.o;have u1:=fP.o;have u2:=ep.o;have u3:=gu.o;have u4:=gX.o;have u5:=kI.o;unfold Up at *;omega)).mono ?_;rintro e W6⟨rfl,x6,O7,O8,DA,h6⟩;have oa:=hd h6;have Dz:=hd (show Up 0 1 x5 x6 from DA);clear h6 DA;have y0:=(aa oa.o.1 0).trans (jU _ _ _ _)
   go_wp2_with fail
   refine(bK oa.o HT.o 8 (by decide) (by decide)).mono ?_;rintro e W7⟨r7,q7,rr7,rs7,rfl,h7⟩;obtain⟨x7,vS7,Tz,rfl,rfl,wM,Bj⟩:=Ae h7;clear h7;clear y0
   go_wp2_with fail
   refine(bY wM.o _ _ _ _ (by have:=HB.o;have:=HH.o;have u1:=fP.o;have u2:=ep.o;have u3:=gu.o;have u4:=gX.o;have u5:=kI.o;have u6:=Dz.o;have u7:=Bj.o;unfold Up at *;omega)).mono ?_;rintro e W8⟨rfl,x8,vS8,vC8,YM,h8⟩;have mN:=hd h8;have Io:=hd (show Up 0 1 x7 x8 from YM);clear h8 YM
   go_wp2_with fail
   have y0:=(aa mN.o.1 0).trans (jU _ _ _ _);have y7:=gy mN.o iL.o 7 6;refine st 16 (fun w'=>w'.cell? ⟨p.g,0,none⟩=some (.pointer (some ⟨p.tb,0,none⟩))/\w'.cell? ⟨p.g,7,none⟩=some (.slice A6 M.f6.length c6)) [] ⟨y0,y7⟩ (fun ag=>?_);refine cZ 0 81 1 82 2 83 ?_;refine cZ 3 84 4 85 5 86 ?_;refine tk 6 87 ag ?_;refine cZ 7 88 8 89 9 90 ?_;refine pu 10 91 ?_;refine tk 11 92 ag ?_;refine pu 12 93 ?_;refine on 13 (some 94) (fun K hK=>?_);refine ge (bK (mN.o.drewN 1) HT.o (M.f6.length:Int) (by have:=HZ.o;omega) (by have:=HZ.o;omega)) ?_;rintro e W9⟨r9,q9,rr9,rs9,rfl,h9⟩;obtain⟨x9,iZ,tu⟩:=Mf h9;clear h9;have od:=hd (And.intro rr9 rs9);clear rr9 rs9;obtain⟨vS9,rfl⟩:=ex vS8;obtain⟨vC9,rfl⟩:=ex vC8;refine⟨_,rfl,?_⟩;refine hK.o _ _ ⟨((aa iZ.o.1 0).trans (jU _ _ _ _)),((gy iZ.o iL.o 7 6))⟩ (fun ag=>?_);clear hK K;refine nm ?_;refine pu 14 95 ?_;refine on 15 (some 96) (fun K hK=>?_);refine ge (bY iZ.o _ _ _ _ (by have:=HB.o;have:=HH.o;have u:=((((((((fP.o.trans ep.o).trans gu.o).trans gX.o).trans kI.o).trans Dz.o).trans Bj.o).trans Io.o).trans tu.o);unfold Up at u;omega)) ?_;rintro e jC⟨rfl,eo,YN,Vm,YO,h10⟩;have pT:=hd h10;have oC:=hd (show Up 0 1 x9 eo from YO);clear h10 YO;refine⟨_,rfl,?_⟩;refine hK.o _ _ ⟨((aa pT.o.1 0).trans (jU _ _ _ _)),((gy pT.o iL.o 7 6))⟩ (fun ag=>?_);clear hK K;refine nm ?_;refine dn ?_;clear y0 y7;have hbd:0<eo.s.length/\eo.s.length<=1000000:=by have:=HB.o;have:=HH.o;have u1:=fP.o;have u2:=ep.o;have u3:=gu.o;have u4:=gX.o;have u5:=kI.o;have u6:=Dz.o;have u7:=Bj.o;have u8:=Io.o;have u9:=tu.o;have u10:=oC.o;unfold Up at *;omega
   obtain⟨Su,Pa,adm⟩:=Kd.ai pT.o.2.2.2.2.2.2.1;subst adm;have fJ:=(aa pT.o.1 12).trans (jV pT.o.2.1 _ _ _);obtain⟨J,hJ⟩:=ex (eo.s.length-1);have a2:(eo.s.length:Int)-1=(J:Int):=by omega
   have b2:J<=4611686018427387904:=by omega
   have d0:(0:Int)<=(J:Int):=by omega
   have vV:=hd (show J<=eo.s.length by omega);have d1:(J:Int)<=(Pa:Int):=by have:=(pT.o.gC J vV.o).1;omega
   have f12:=ah pT.o.1 12;have HJ:=hd (And.intro hJ hbd.1);clear hJ hbd;have w2:=kg _ _ a2 b2;clear a2 b2
   go_wp2_with fail
   refine st 15 (fun w'=>w'.cell? ⟨p.g,12,none⟩=some (.slice Su eo.s.length Pa)) [14] fJ (fun ag=>?_);refine cZ 0 130 1 131 2 132 ?_;refine pu 3 133 ?_;refine tk 4 134 ag ?_;refine cZ 5 135 6 136 7 137 ?_;refine tk 8 138 ag ?_;refine cZ 9 139 10 140 11 141 ?_;refine pu2 12 142 13 143 ?_;refine la 14 ?_;refine dn ?_;clear fJ w2 d0 d1 f12;have h9:aG R (World.setCell jC ⟨p.g,12,none⟩ (.slice Su J Pa)).drew p _ _ _:=aG.cut (pT.o.drewN 1) J vV.o;generalize (World.setCell jC ⟨p.g,12,none⟩ (.slice Su J Pa)).drew=vM at h9⊢;generalize Value.slice Su J Pa=adn at h9;obtain⟨ado,rfl⟩:=ex Vm;obtain⟨Pb,hx⟩:=ex (fT.mk (eo.s.take J) eo.code eo.left eo.pos);rw[<-hx]at h9;have F3:=hd h9;have Sv:=hd (show Pb.s.length+1=eo.s.length/\Pb.code.length=eo.code.length/\Pb.left=eo.left by subst hx;exact⟨by have:=HJ.o;have:=vV.o;simp only[List.length_take];omega,rfl,rfl⟩);clear h9 hx HJ vV
   go_wp2_with fail
   go_end0
   exact⟨rfl,_,_,_,(by have:=HB.o;have:=HH.o;have u1:=fP.o;have u2:=ep.o;have u3:=gu.o;have u4:=gX.o;have u5:=kI.o;have u6:=Dz.o;have u7:=Bj.o;have u8:=Io.o;have u9:=tu.o;have u10:=oC.o;have u11:=Sv.o;unfold Up at *;exact⟨by omega,by omega,by omega⟩),F3.o⟩
  have g0:(op==64520)=false:=by simpa using h0
  clear h0
  go_wp2_with fail
  clear g0;refine(uK bP.o HT.o (by have:=HB.o;have:=HH.o;have u1:=fP.o;have u2:=ep.o;have u3:=gu.o;have u4:=gX.o;unfold Up at *;omega) (by have:=HB.o;have:=HH.o;have u1:=fP.o;have u2:=ep.o;have u3:=gu.o;have u4:=gX.o;unfold Up at *;omega)).mono ?_;rintro e W5⟨rfl,x5,ye,uW,pR,h5⟩;have gI:=hd h5;have kI:=hd (show Up 1 1 x4 x5 from pR);clear h5 pR;have hbd:0<x5.s.length/\x5.s.length<=1000000:=by have:=HB.o;have:=HH.o;have u1:=fP.o;have u2:=ep.o;have u3:=gu.o;have u4:=gX.o;have u5:=kI.o;unfold Up at *;omega
  obtain⟨Vl,Ty,es5⟩:=Kd.ai gI.o.2.2.2.2.2.2.1;subst es5;have fJ:=(aa gI.o.1 12).trans (jV gI.o.2.1 _ _ _);obtain⟨J,hJ⟩:=ex (x5.s.length-1);have a2:(x5.s.length:Int)-1=(J:Int):=by omega
  have b2:J<=4611686018427387904:=by omega
  have d0:(0:Int)<=(J:Int):=by omega
  have vV:=hd (show J<=x5.s.length by omega);have d1:(J:Int)<=(Ty:Int):=by have:=(gI.o.gC J vV.o).1;omega
  have f12:=ah gI.o.1 12;have HJ:=hd (And.intro hJ hbd.1);clear hJ hbd;have w2:=kg _ _ a2 b2;clear a2 b2
  go_wp2_with fail
  refine st 15 (fun w'=>w'.cell? ⟨p.g,12,none⟩=some (.slice Vl x5.s.length Ty)) [14] fJ (fun ag=>?_);refine cZ 0 99 1 100 2 101 ?_;refine pu 3 102 ?_;refine tk 4 103 ag ?_;refine cZ 5 104 6 105 7 106 ?_;refine tk 8 107 ag ?_;refine cZ 9 108 10 109 11 110 ?_;refine pu2 12 111 13 112 ?_;refine la 14 ?_;refine dn ?_;clear fJ w2 d0 d1 f12;have h9:aG R (World.setCell W5 ⟨p.g,12,none⟩ (.slice Vl J Ty)).drew p _ _ _:=aG.cut (gI.o.drewN 1) J vV.o;generalize (World.setCell W5 ⟨p.g,12,none⟩ (.slice Vl J Ty)).drew=W6 at h9⊢;generalize Value.slice Vl J Ty=O7 at h9;obtain⟨O8,rfl⟩:=ex uW;obtain⟨x6,hx⟩:=ex (fT.mk (x5.s.take J) x5.code x5.left x5.pos);rw[<-hx]at h9;have oa:=hd h9;have Dz:=hd (show x6.s.length+1=x5.s.length/\x6.code.length=x5.code.length/\x6.left=x5.left by subst hx;exact⟨by have:=HJ.o;have:=vV.o;simp only[List.length_take];omega,rfl,rfl⟩);clear h9 hx HJ vV;have y0:=(aa oa.o.1 0).trans (jU _ _ _ _)
  go_wp2_with fail
  refine(bK oa.o HT.o 60 (by decide) (by decide)).mono ?_;rintro e W7⟨r7,q7,rr7,rs7,rfl,h7⟩;obtain⟨x7,vS7,Tz,rfl,rfl,wM,Bj⟩:=Ae h7;clear h7;clear y0
  go_wp2_with fail
  refine(bY wM.o _ _ _ _ (by have:=HB.o;have:=HH.o;have u1:=fP.o;have u2:=ep.o;have u3:=gu.o;have u4:=gX.o;have u5:=kI.o;have u6:=Dz.o;have u7:=Bj.o;unfold Up at *;omega)).mono ?_;rintro e W8⟨rfl,x8,vS8,vC8,YM,h8⟩;have mN:=hd h8;have Io:=hd (show Up 0 1 x7 x8 from YM);clear h8 YM;by_cases h3:op=64523
  case' _=>have g3:(op==64523)=true:=by simp[h3]
  rotate_left
  case' _=>have g3:(op==64523)=false:=by simpa using h3
  all_goals
   clear h3
   go_wp2_with fail
   clear g3;refine(bY mN.o _ _ _ _ (by have:=HB.o;have:=HH.o;have u1:=fP.o;have u2:=ep.o;have u3:=gu.o;have u4:=gX.o;have u5:=kI.o;have u6:=Dz.o;have u7:=Bj.o;have u8:=Io.o;unfold Up at *;omega)).mono ?_;rintro e W9⟨rfl,x9,vS9,vC9,hu9,h9⟩;have iZ:=hd h9;have tu:=hd (show Up 0 1 x8 x9 from hu9);clear h9 hu9;have hbd:0<x9.s.length/\x9.s.length<=1000000:=by have:=HB.o;have:=HH.o;have u1:=fP.o;have u2:=ep.o;have u3:=gu.o;have u4:=gX.o;have u5:=kI.o;have u6:=Dz.o;have u7:=Bj.o;have u8:=Io.o;have u9:=tu.o;unfold Up at *;omega
   obtain⟨PS9,YP,es9⟩:=Kd.ai iZ.o.2.2.2.2.2.2.1;subst es9;have fJ:=(aa iZ.o.1 12).trans (jV iZ.o.2.1 _ _ _);obtain⟨J,hJ⟩:=ex (x9.s.length-1);have a2:(x9.s.length:Int)-1=(J:Int):=by omega
   have b2:J<=4611686018427387904:=by omega
   have d0:(0:Int)<=(J:Int):=by omega
   have vV:=hd (show J<=x9.s.length by omega);have d1:(J:Int)<=(YP:Int):=by have:=(iZ.o.gC J vV.o).1;omega
   have f12:=ah iZ.o.1 12;have HJ:=hd (And.intro hJ hbd.1);clear hJ hbd;have w2:=kg _ _ a2 b2;clear a2 b2
   go_wp2_with fail
   refine st 15 (fun w'=>w'.cell? ⟨p.g,12,none⟩=some (.slice PS9 x9.s.length YP)) [14] fJ (fun ag=>?_);refine cZ 0 130 1 131 2 132 ?_;refine pu 3 133 ?_;refine tk 4 134 ag ?_;refine cZ 5 135 6 136 7 137 ?_;refine tk 8 138 ag ?_;refine cZ 9 139 10 140 11 141 ?_;refine pu2 12 142 13 143 ?_;refine la 14 ?_;refine dn ?_;clear fJ w2 d0 d1 f12;have h9:aG R (World.setCell W9 ⟨p.g,12,none⟩ (.slice PS9 J YP)).drew p _ _ _:=aG.cut (iZ.o.drewN 1) J vV.o;generalize (World.setCell W9 ⟨p.g,12,none⟩ (.slice PS9 J YP)).drew=jC at h9⊢;generalize Value.slice PS9 J YP=YN at h9;obtain⟨Vm,rfl⟩:=ex vC9;obtain⟨eo,hx⟩:=ex (fT.mk (x9.s.take J) x9.code x9.left x9.pos);rw[<-hx]at h9;have pT:=hd h9;have oC:=hd (show eo.s.length+1=x9.s.length/\eo.code.length=x9.code.length/\eo.left=x9.left by subst hx;exact⟨by have:=HJ.o;have:=vV.o;simp only[List.length_take];omega,rfl,rfl⟩);clear h9 hx HJ vV
   go_wp2_with fail
   go_end0
   exact⟨rfl,_,_,_,(by have:=HB.o;have:=HH.o;have u1:=fP.o;have u2:=ep.o;have u3:=gu.o;have u4:=gX.o;have u5:=kI.o;have u6:=Dz.o;have u7:=Bj.o;have u8:=Io.o;have u9:=tu.o;have u10:=oC.o;unfold Up at *;exact⟨by omega,by omega,by omega⟩),pT.o⟩
def Sx(w:World)(e:Ending)(w':World):Prop:= ∃b,e= .returned (.bool b)/\ ∃n,w'=w.drewN n
theorem Ci(A B:Option Addr)(ca cb:Nat)(a b:List Int)(w:World)(ha:bf w A a)(hb:bf w B b)(hn:a.length<=1000000):Calls prog 169 #[.slice A a.length ca,.slice B b.length cb] w (Sx w):=by
 have HA:=hd ha;have HB:=hd hb;have HN:=hd hn;clear ha hb hn;by_cases hq:a.length=b.length
 ·have q1:((a.length:Int) !=(b.length:Int))=false:=by simp[hq]
  go_enter func169,ntmps169
  go_wp2_with fail
  clear q1;refine jk 26 (fun d u W=> ∃(k n:Nat),d+k=a.length/\u 0= .slice A a.length ca/\u 1= .slice B b.length cb/\u 5= .int .i64 k/\W=w.drewN n) a.length rfl rfl ⟨0,0,rfl,rfl,rfl,rfl,rfl⟩ ?_;intro d u W2 q hI hl;obtain⟨k,n,hk,h0,h1,h5,rfl⟩:=hI;simp only[List.range,List.range.loop,List.map_cons,List.map_nil,h0,h1,h5]at hl;subst hl;clear h0 h1 h5;by_cases bI:k<a.length
  ·have i1:((k:Int)<(a.length:Int)):=by omega
   have i2:((k:Int)<(b.length:Int)):=by omega
   have i0:(0:Int)<=(k:Int):=by omega
   have HK:=hd (show d-1<d/\d-1+(k+1)=a.length from⟨by omega,by omega⟩);clear hk;have ew:=hd (uh k (by have:=HN.o;omega));obtain⟨ad,hA,c1⟩:=Kd.fQ HA.o (k:Int) i0 i1;subst hA;obtain⟨bd,hB,c2⟩:=Kd.fQ HB.o (k:Int) i0 i2;subst hB;rw[dF]at c1 c2;obtain⟨v1,FB⟩:=ex (rd a (k:Int));obtain⟨v2,hv2⟩:=ex (rd b (k:Int));rw[<-FB]at c1;rw[<-hv2]at c2;clear FB hv2 hq;by_cases he:v1=v2
   ·have GQ:(v1 !=v2)=false:=by simp[he]
    clear he
    go_wp2_with fail
    go_quiet (fail)
    go_wp2_with fail
    exact⟨by first|trivial|rfl,by first|trivial|rfl,d-1,HK.o.1,k+1,_,HK.o.2,rfl,rfl,congrArg (Value.int .i64) ew.o,rfl⟩
   ·have GQ:(v1 !=v2)=true:=by simpa using he
    clear he
    go_wp2_with fail
    go_quiet (fail)
    go_wp2_with fail
    go_ret;exact⟨false,rfl,O0 _ _ _⟩
  ·have i1: ¬((k:Int)<(a.length:Int)):=by omega
   go_wp2_with fail
   go_ret;exact⟨true,rfl,_,rfl⟩
 ·have q1:((a.length:Int) !=(b.length:Int))=true:=by simp;omega
  go_enter func169,ntmps169
  go_wp2_with fail
  go_ret;exact⟨false,rfl,0,rfl⟩
theorem aG.Sy{R:World->Prop}{W:World}{p:GP}{x:fT}{vS vC:Value}(h:aG R W p x vS vC){k:Nat}{cs:Array Value}{t:TypeId}(hR: ∀V,R V->V.heap[k]? =some (.cells cs t (0,0))): ¬jJ p vS vC k:=fun hO=>by
 have hk:k<W.heap.size:=h.iC hO
 have hV:jd (jJ p vS vC) W {W with heap:=W.heap.setIfInBounds k (.cells (cs.push undef) t (0,0))}:=by
  refine⟨rfl,rfl,rfl,by simp,fun j hj hn=>?_⟩;have:k≠j:=fun e=>hn (e▸hO)
  show(W.heap.setIfInBounds k (.cells (cs.push undef) t (0,0)))[j]? =W.heap[j]?
  rw[Array.getElem?_setIfInBounds_ne this]
 have h2:(W.heap.setIfInBounds k (.cells (cs.push undef) t (0,0)))[k]? =some (.cells cs t (0,0)):=hR _ (h.2.2.2.2.2.2.2.2 _ hV);rw[Array.getElem?_setIfInBounds_self_of_lt hk]at h2;injection h2 with h2;injection h2 with h2;have:=congrArg Array.size h2;simp at this
theorem aG.grown{R R2:World->Prop}{W W':World}{p:GP}{x:fT}{vS vC:Value}(h:aG R W p x vS vC){row:Option Nat}(hG:W.grownBy W' row)(hr: ∀k,row=some k-> ¬jJ p vS vC k)(hb: ∀k,row=some k->p.bad k)(hF:Fz W' (jJ p vS vC) R2):aG R2 W' p x vS vC:=by
 have hne: ∀k,jJ p vS vC k->some k≠row:=fun k hk e=>hr k e.symm hk
 obtain⟨a,b,c,d,e,f,g,i,j⟩:=h;refine⟨(hG.block _ (aj a) (hne _ (.inl rfl))).trans a,b,c,(hG.block _ (aj d) (hne _ (.inr (.inl rfl)))).trans d,⟨e.1,fun k hk=>jv (e.2 k hk) hG.size⟩,f,?_,?_,hF⟩
 ·have q:bl W 0 (fun k=>((k≠p.g/\k≠p.tb)/\some k≠vC.ownBlock)/\some k=vS.ownBlock) vS x.s:=⟨fun k hk=>⟨g.1 k hk,hk.symm⟩,(Kd.bQ (Kd.rL rfl g) (ok':=fun k=>((k≠p.g/\k≠p.tb)/\some k≠vC.ownBlock)/\some k=vS.ownBlock) (fun k hk=>⟨g.1 k hk.symm,hk⟩)).2⟩
  exact Kd.bQ (Kd.Ct q hG (fun k hk=>hne k (.inr (.inr (.inl hk.2))))) (fun k hk=>hk.1)
 ·exact Kd.Ct i hG (fun k hk e=>hk.1.2 (hb k e.symm))
theorem aG.TB{R:World->Prop}{W:World}{p:GP}{x:fT}{vS vC:Value}(h:aG R W p x vS vC)(bad:Nat->Prop)(hb: ∀k,bad k->k<W.heap.size)(hC:zM W (fun k=>((k≠p.g/\k≠p.tb)/\ ¬bad k)/\some k≠vS.ownBlock) vC x.code):aG R W {p with bad:=bad} x vS vC:=by
 obtain⟨a,b,c,d,e,f,g,i,j⟩:=h;exact⟨a,b,c,d,⟨e.1,hb⟩,f,g,hC,j⟩
theorem LC{R:World->Prop}{W3 W W':World}{p p3:GP}{x:fT}{vS vC qi nZ:Value}(h:aG (fun V=>R V/\jd (jJ p3 qi nZ) W3 V) W p x vS vC)(hR:Fz W3 (jJ p3 qi nZ) R){row:Option Nat}(hG:W.grownBy W' row)(hrow: ∀k,row=some k->W3.heap.size<=k/\k<W.heap.size):Fz W' (jJ p vS vC) (fun V=>R V/\jd (jJ p3 qi nZ) W3 V):=fun V hV=>by
 have key:jd (jJ p3 qi nZ) W3 V:=by
  rcases row with _|k
  ·have:jd (jJ p vS vC) W V:=⟨hV.os.trans hG.os,hV.tape.trans hG.tape,hV.output.trans hG.output,cG hG.size hV.size,fun j hj hn=>(hV.block j (jv hj hG.size) hn).trans (hG.block j hj (by simp))⟩
   exact(h.2.2.2.2.2.2.2.2 V this).2
  ·obtain⟨k1,k2⟩:=hrow k rfl
   have hkV:k<V.heap.size:=jv k2 (cG hG.size hV.size);obtain⟨o,ho⟩: ∃o,W.heap[k]? =some o:=⟨_,Array.getElem?_eq_getElem k2⟩
   have hV2:jd (jJ p vS vC) W {V with heap:=V.heap.setIfInBounds k o}:=by
    refine⟨hV.os.trans hG.os,hV.tape.trans hG.tape,hV.output.trans hG.output,by simpa using cG hG.size hV.size,fun j hj hn=>?_⟩;show(V.heap.setIfInBounds k o)[j]? =W.heap[j]?
    by_cases e:k=j
    ·subst e;rw[Array.getElem?_setIfInBounds_self_of_lt hkV,ho]
    ·rw[Array.getElem?_setIfInBounds_ne e]
     exact(hV.block j (jv hj hG.size) hn).trans (hG.block j hj (by simp;exact fun h=>e h.symm))
   have q:=(h.2.2.2.2.2.2.2.2 _ hV2).2;refine⟨q.os,q.tape,q.output,by simpa using q.size,fun j hj hn=>?_⟩;have:=q.block j hj hn;have h2:(V.heap.setIfInBounds k o)[j]? =W3.heap[j]? :=this
   rwa[Array.getElem?_setIfInBounds_ne (by omega)]at h2
 exact⟨hR V key,key⟩
def Pc(R:World->Prop)(p:GP)(height:Nat)(x:fT)(e:Ending)(w':World):Prop:= ∃b,e= .returned (.bool b)/\ ∃y vS vC,On 60 height x y/\aG R w' p y vS vC
theorem LD{R:World->Prop}{w:World}{p:GP}{x:fT}{vS vC:Value}(h:aG R w p x vS vC)(hT:dH R p){M:bL}{L:List Int}{S:ig}(hE:kf R p M L S)(hM:jq M L S){n:Nat}(vW:lR R p n)(height:Nat)(hh:height<=x.s.length)(hs:x.code.length+x.s.length+100<=1000000):Calls prog 114 #[.pointer (some ⟨p.g,0,none⟩),.int .i64 height] w (Pc R p height x):=by
 obtain⟨W0,rfl⟩:=ex w;obtain⟨x0,rfl⟩:=ex x;obtain⟨Du,rfl⟩:=ex vS;obtain⟨Cc,rfl⟩:=ex vC;have cn:=hd h;have HT:=hd hT;clear h hT;have HE:=hd hE;obtain⟨w0,A0,c0,A1,c1,A2,c2,A3,c3,A4,c4,A5,c5,A6,c6,A7,c7,AL,cL,AS,cS,AR,cR,iR,Cf,Cg⟩:=hE;have iL:=hd iR;have OY:=hd Cf;have Af:=hd Cg;clear iR Cf Cg;have gZ:=hd hM;have HB:=hd hs;have HH:=hd hh;clear hM hs hh;obtain⟨hn0,Tw,PL,Qj,Bs,ds,ls,Sn,hls,FU⟩:=vW;have HN:=hd (And.intro hn0 Tw);have Bh:=hd Sn;have xu:=hd hls;have qj:=hd FU;clear hn0 Tw Sn hls FU;have y0:=(aa cn.o.1 0).trans (jU _ _ _ _)
 go_enter func114,ntmps114
 go_wp2_with fail
 refine(bK cn.o HT.o 6 (by decide) (by decide)).mono ?_;rintro e W1⟨r1,q1,Dv,Dw,rfl,h1⟩;obtain⟨x1,Bd,Be,rfl,rfl,bE,fP⟩:=Ae h1;clear h1;clear y0;have h6:(r1=0\/r1=1)\/r1=2\/r1=3\/r1=4\/r1=5:=by omega
 clear Dv Dw;rcases h6 with h|h|h|h|h
 ·skip
  rcases h with rfl|rfl
  all_goals
   go_wp2_with fail
   have y0:=(aa bE.o.1 0).trans (jU _ _ _ _);have oA:=((aa bE.o.1 13).trans (rz bE.o.2.1 _ _ _)).trans (congrArg some Bh.o);refine st 11 (fun w'=>w'.cell? ⟨p.g,0,none⟩=some (.pointer (some ⟨p.tb,0,none⟩))/\w'.cell? ⟨p.g,13,none⟩=some (.slice (some PL) n (n+Qj))) [] ⟨y0,oA⟩ (fun ag=>?_);refine cZ 0 31 1 32 2 33 ?_;refine tk 3 34 ag ?_;refine cZ 4 35 5 36 6 37 ?_;refine tk 7 38 ag ?_;refine pu 8 39 ?_;refine on 9 (some 40) (fun K hK=>?_);refine ge (bK (bE.o.drewN 1) HT.o (n:Int) (by have:=HN.o;omega) (by have:=HN.o;omega)) ?_;rintro e W2⟨r2,q2,D9,FT,rfl,h2⟩;obtain⟨x2,bw,ep⟩:=Mf h2;clear h2;refine⟨_,rfl,?_⟩;refine hK.o _ _ ⟨((aa bw.o.1 0).trans (jU _ _ _ _)),(((aa bw.o.1 13).trans (rz bw.o.2.1 _ _ _)).trans (congrArg some Bh.o))⟩ (fun ag=>?_);clear hK K;refine nm ?_;refine pu 10 5 ?_;refine dn ?_;clear y0 oA;obtain⟨Bf,rfl⟩:=ex Bd;obtain⟨yb,rfl⟩:=ex Be;obtain⟨j2,rfl⟩: ∃j:Nat,r2=j:=⟨r2.toNat,by omega⟩;have ia:=hd (show j2<n by omega);clear D9 FT
   go_wp2_with fail
   have e0:=HN.o;have e1:=ia.o;obtain⟨N,hN⟩:=ex (n-1);obtain⟨J,hJ⟩:=ex (N-j2);have a2:(n:Int)-1=(N:Int):=by omega
   have a3:(N:Int)-(j2:Int)=(J:Int):=by omega
   have b2:N<=4611686018427387904:=by omega
   have b3:J<=4611686018427387904:=by omega
   have hJ0:(0:Int)<=(J:Int):=by omega
   have Vh:(J:Int)<(n:Int):=by omega
   have Qk:=hd (show J<n by omega);have hc:=(qj.o _ bw.o.get J Qk.o).1;clear e0 e1 hN hJ;have w2:=kg _ _ a2 b2;have w3:=kg _ _ a3 b3;have w4:=Bc J b3;clear a2 a3 b2 b3;have oA:=((aa bw.o.1 13).trans (rz bw.o.2.1 _ _ _)).trans (congrArg some Bh.o);refine st 17 (fun w'=>w'.cell? ⟨p.g,13,none⟩=some (.slice (some PL) n (n+Qj))/\w'.cell? (PL.add J)=some (.slice (Bs J) (ls J).length (ds J))) [] ⟨oA,hc⟩ (fun ag=>?_);refine cZ 0 41 1 42 2 43 ?_;refine pu 3 44 ?_;refine tk 4 45 ag ?_;refine cZ 5 46 6 47 7 48 ?_;refine tk 8 49 ag ?_;refine cZ 9 50 10 51 11 52 ?_;refine pu2 12 53 13 54 ?_;refine tk 14 55 ag ?_;refine pu 15 56 ?_;refine on 16 (some 57) (fun K hK=>?_);refine ge (jo (bw.o.drewN 1) HT.o HE.o (by have:=gZ.o.hL;omega) (by have:=gZ.o.Bg;omega) (Bs J) (ds J) (ls J) (fun W hW=>(qj.o W hW J Qk.o).2) (by have:=xu.o J;omega) height (by have:=HH.o;have:=HB.o;have u:=(fP.o.trans ep.o);unfold Up at u;omega) (by have:=HH.o;have:=HB.o;have u:=(fP.o.trans ep.o);unfold Up at u;omega) (by have:=HH.o;have:=HB.o;have u:=(fP.o.trans ep.o);unfold Up at u;omega)) ?_;rintro e W3⟨rfl,x3,qi,nZ,nu,h3⟩;have cC:=hd h3;have Gs:=hd (show height+(ls J).length<=x3.s.length/\x3.s.length<=x0.s.length+8/\x3.code.length<=x0.code.length+8/\x3.left=x0.left by have u:=(fP.o.trans ep.o);have:=xu.o J;unfold Up at u;unfold Nd at nu;omega);clear h3 nu;refine⟨_,rfl,?_⟩;refine hK.o _ _ ⟨(((aa cC.o.1 13).trans (rz cC.o.2.1 _ _ _)).trans (congrArg some Bh.o)),(qj.o _ cC.o.get J Qk.o).1⟩ (fun ag=>?_);clear hK K;refine nm ?_;refine dn ?_;clear oA w2 w3 w4 hc hJ0 Vh
   go_wp2_with fail
   refine(bY cC.o _ _ _ _ (by have:=Gs.o;have:=HB.o;omega)).mono ?_;rintro e W4⟨rfl,x4,yc,rV,oz,h4⟩;have bP:=hd h4;have gX:=hd (show Up 0 1 x3 x4 from oz);clear h4 oz
   go_wp2_with fail
   refine(rB bP.o HT.o height (by have:=Gs.o;have u4:=gX.o;unfold Up at u4;omega) (by have:=Gs.o;have:=HB.o;have u4:=gX.o;unfold Up at u4;omega)).mono ?_;rintro e W5⟨rfl,y,DZ,D8,hu,h9⟩
   go_wp2_with fail
   go_ret;exact⟨false,rfl,y,_,_,(by have:=Gs.o;have u4:=gX.o;unfold Up at u4;unfold De at hu;exact⟨by omega,by omega,by omega⟩),h9⟩
 ·skip
  subst h
  go_wp2_with fail
  have y0:=(aa bE.o.1 0).trans (jU _ _ _ _);have oA:=((aa bE.o.1 13).trans (rz bE.o.2.1 _ _ _)).trans (congrArg some Bh.o);refine st 11 (fun w'=>w'.cell? ⟨p.g,0,none⟩=some (.pointer (some ⟨p.tb,0,none⟩))/\w'.cell? ⟨p.g,13,none⟩=some (.slice (some PL) n (n+Qj))) [] ⟨y0,oA⟩ (fun ag=>?_);refine cZ 0 64 1 65 2 66 ?_;refine tk 3 67 ag ?_;refine cZ 4 68 5 69 6 70 ?_;refine tk 7 71 ag ?_;refine pu 8 72 ?_;refine on 9 (some 73) (fun K hK=>?_);refine ge (bK (bE.o.drewN 1) HT.o (n:Int) (by have:=HN.o;omega) (by have:=HN.o;omega)) ?_;rintro e W2⟨r2,q2,D9,FT,rfl,h2⟩;obtain⟨x2,bw,ep⟩:=Mf h2;clear h2;refine⟨_,rfl,?_⟩;refine hK.o _ _ ⟨((aa bw.o.1 0).trans (jU _ _ _ _)),(((aa bw.o.1 13).trans (rz bw.o.2.1 _ _ _)).trans (congrArg some Bh.o))⟩ (fun ag=>?_);clear hK K;refine nm ?_;refine pu 10 6 ?_;refine dn ?_;clear y0 oA;obtain⟨Bf,rfl⟩:=ex Bd;obtain⟨yb,rfl⟩:=ex Be;obtain⟨j2,rfl⟩: ∃j:Nat,r2=j:=⟨r2.toNat,by omega⟩;have ia:=hd (show j2<n by omega);clear D9 FT
  go_wp2_with fail
  have e0:=HN.o;have e1:=ia.o;obtain⟨N,hN⟩:=ex (n-1);obtain⟨J,hJ⟩:=ex (N-j2);have a2:(n:Int)-1=(N:Int):=by omega
  have a3:(N:Int)-(j2:Int)=(J:Int):=by omega
  have b2:N<=4611686018427387904:=by omega
  have b3:J<=4611686018427387904:=by omega
  have hJ0:(0:Int)<=(J:Int):=by omega
  have Vh:(J:Int)<(n:Int):=by omega
  have Qk:=hd (show J<n by omega);have hc:=(qj.o _ bw.o.get J Qk.o).1;clear e0 e1 hN hJ;have w2:=kg _ _ a2 b2;have w3:=kg _ _ a3 b3;have w4:=Bc J b3;clear a2 a3 b2 b3;have oA:=((aa bw.o.1 13).trans (rz bw.o.2.1 _ _ _)).trans (congrArg some Bh.o)
  go_quiet (fail)
  go_wp2_with fail
  clear oA w2 w3 w4 hc hJ0 Vh;refine(jo (bw.o.drewN _) HT.o HE.o (by have:=gZ.o.hL;omega) (by have:=gZ.o.Bg;omega) (Bs J) (ds J) (ls J) (fun W hW=>(qj.o W hW J Qk.o).2) (by have:=xu.o J;omega) height (by have:=HH.o;have:=HB.o;have u:=(fP.o.trans ep.o);unfold Up at u;omega) (by have:=HH.o;have:=HB.o;have u:=(fP.o.trans ep.o);unfold Up at u;omega) (by have:=HH.o;have:=HB.o;have u:=(fP.o.trans ep.o);unfold Up at u;omega)).mono ?_;rintro e W3⟨rfl,x3,qi,nZ,nu,h3⟩;have cC:=hd h3;have Gs:=hd (show height+(ls J).length<=x3.s.length/\x3.s.length<=x0.s.length+8/\x3.code.length<=x0.code.length+8/\x3.left=x0.left by have u:=(fP.o.trans ep.o);have:=xu.o J;unfold Up at u;unfold Nd at nu;omega);clear h3 nu
  go_wp2_with fail
  refine jk 226 (fun d u W=> ∃(k:Nat) (v:Value) (tq:List Int),d+k=n/\u 0= .pointer (some ⟨p.g,0,none⟩)/\u 1= .int .i64 height/\u 6= .int .i64 j2/\u 7= .slice (Bs J) (ls J).length (ds J)/\u 8=v/\u 9= .int .i64 k/\Hid (tq.length<=4)/\Hid (cO W W3.heap.size v tq)/\Hid (Below W3.heap.size W3 W)) n rfl rfl ⟨0,_,[],rfl,rfl,rfl,rfl,rfl,rfl,rfl,hd (by decide),hd (Kd.fS _ _ _ _ _),hd (ay _ _)⟩ ?_;intro d u W4 q hI hq;obtain⟨k,v,tq,hk,h0,h1,h6,h7,h8,h9,HTL,Vn,uV⟩:=hI;obtain⟨Pt,kt,e8⟩:=Kd.ai Vn.o;rw[e8]at h8 Vn;clear e8 v;simp only[List.range,List.range.loop,List.map_cons,List.map_nil,h0,h1,h6,h7,h8,h9]at hq;subst hq;clear h0 h1 h6 h7 h8 h9;have bP:=hd (cC.o.below uV.o);obtain⟨x4,MI⟩:=ex x3;clear MI x4;have hcs:(k<n/\tq.length<4)\/(k<n/\ ¬tq.length<4)\/ ¬k<n:=by omega
  have oA:=((aa bP.o.1 13).trans (rz bP.o.2.1 _ _ _)).trans (congrArg some Bh.o);rcases hcs with⟨bI,hl4⟩|hex
  ·skip
   have g1:((k:Int)<(n:Int)):=by omega
   have g2:((tq.length:Int)<4):=by omega
   have HK:=hd (show(d-1<d/\d-1+(k+1)=n)/\k<n from⟨⟨by omega,by omega⟩,bI⟩);have Vb:=hd hl4;clear hk bI hl4
   go_wp2_with fail
   clear g1 g2 oA;have e0:=HN.o;have e1:=HK.o.2;obtain⟨N,hN⟩:=ex (n-1);obtain⟨J9,hJ9⟩:=ex (N-k);have a2:(n:Int)-1=(N:Int):=by omega
   have a3:(N:Int)-(k:Int)=(J9:Int):=by omega
   have b2:N<=4611686018427387904:=by omega
   have b3:J9<=4611686018427387904:=by omega
   have adq:(0:Int)<=(J9:Int):=by omega
   have adr:(J9:Int)<(n:Int):=by omega
   have YQ:=hd (show J9<n by omega);have hc:=(qj.o _ bP.o.get J9 YQ.o).1;clear e0 e1 hN hJ9;have w2:=kg _ _ a2 b2;have w3:=kg _ _ a3 b3;have w4:=Bc J9 b3;clear a2 a3 b2 b3;have oA:=((aa bP.o.1 13).trans (rz bP.o.2.1 _ _ _)).trans (congrArg some Bh.o);refine st 16 (fun w'=>w'.cell? ⟨p.g,13,none⟩=some (.slice (some PL) n (n+Qj))/\w'.cell? (PL.add J9)=some (.slice (Bs J9) (ls J9).length (ds J9))) [] ⟨oA,hc⟩ (fun ag=>?_);refine cZ 0 106 1 107 2 108 ?_;refine tk 3 109 ag ?_;refine cZ 4 110 5 111 6 112 ?_;refine tk 7 113 ag ?_;refine cZ 8 114 9 115 10 116 ?_;refine pu2 11 117 12 118 ?_;refine tk 13 119 ag ?_;refine pu 14 120 ?_;refine on 15 (some 121) (fun K hK=>?_);refine ge (Ci (Bs J9) (Bs J) (ds J9) (ds J) (ls J9) (ls J) W4.drew (Kd.eL (qj.o _ bP.o.get J9 YQ.o).2) (Kd.eL (qj.o _ bP.o.get J Qk.o).2) (by have:=xu.o J9;omega)) ?_;rintro e w'⟨b,rfl,nn,rfl⟩;refine⟨_,rfl,?_⟩;refine hK.o _ _ ag (fun ag=>?_);clear hK K;refine nm ?_;refine dn ?_;clear oA w2 w3 w4 hc adq adr;have ew:=hd (uh k (by have:=HK.o;have:=HN.o;omega));have gI:=hd (bP.o.drewN (1+nn));have YR:=hd (Kd.bU Vn.o (1+nn));have Vo:=hd (aq uV.o (1+nn));cases b with
   |false=>
    have ew:=ew.o
    go_wp2_with fail
    exact⟨by first|trivial|rfl,by first|trivial|rfl,d-1,HK.o.1.1,k+1,_,tq,HK.o.1.2,rfl,rfl,rfl,rfl,rfl,congrArg (Value.int .i64) ew,HTL,YR,Vo⟩
   |true=>
    have xZ:W3.heap.size<=(W4.drewN (1+nn)).heap.size:=Vo.o.size;have uN:(tq.length+1)*8<=140737488355328:=by have:=HTL.o;omega
    go_wp2_with (first|(at_builtin;(refine Kd.fc (Kd.int .i64) (w0:=W3) W3.heap.size rfl (.tmp 122) (.tmp 124) 23 3 (.int .i64 0) 8 rfl underlying23 cQ rfl (dG 0) (dG 7) (.slice Pt tq.length kt) tq (k:Int) [.int .i64 k] (fun _=>True) (fun k=>some k≠(Value.slice Pt tq.length kt).ownBlock) rfl rfl rfl (fun _ hk=>⟨trivial,hk⟩) (fun _ _=>trivial) YR.o Vo.o xZ uN ?_);intro v9 w9 hR hB hG hat;have od:=hd hR;have iZ:=hd hB;have ew:=ew.o;clear hR hB hG hat xZ uN))
    exact⟨by first|trivial|rfl,by first|trivial|rfl,d-1,HK.o.1.1,k+1,v9,tq++ [(k:Int)],HK.o.1.2,rfl,rfl,rfl,rfl,rfl,congrArg (Value.int .i64) ew,hd (by have:=Vb.o;simp;omega),od,iZ⟩
  ·skip
   have G4:=hd (show∀k,(Value.slice Pt tq.length kt).ownBlock=some k-> ∃cells q,W4.heap[k]? =some (.cells cells q (0,0))from fun k hk=>by obtain⟨-,-,-,q,-,cells,h⟩:=(Kd.fW Vn.o).1 k hk;exact⟨cells,q,h⟩);have hown: ∀k,(Value.slice Pt tq.length kt).ownBlock=some k->W3.heap.size<=k/\k<W4.heap.size:=fun k hk=>⟨Kd.iW Vn.o k hk,Kd.gY Vn.o k hk⟩
   have hnO: ∀k,(Value.slice Pt tq.length kt).ownBlock=some k-> ¬jJ p qi nZ k:=fun k hk ho=>by have:=(hown k hk).1;have:=cC.o.iC ho;omega
   have hoff:Fz W4 (jJ p qi nZ) (fun V=>jd (jJ p qi nZ) W3 V):=fun V hV=>((jd.refl _ W3).below uV.o).then hV (fun k hk=> .inl hk)
   have hrow:Fz W4 (jJ p qi nZ) (fun V=>bl V 0 (fun k=>some k=(Value.slice Pt tq.length kt).ownBlock) (Value.slice Pt tq.length kt) tq/\ ∀k,(Value.slice Pt tq.length kt).ownBlock=some k->V.heap[k]? =W4.heap[k]?):=fun V hV=>⟨Kd.jN (Kd.eH (Kd.rL rfl Vn.o) (Nat.zero_le _)) (fun k hk=>hV.block k (hown k hk.symm).2 (hnO k hk.symm)),fun k hk=>hV.block k (hown k hk).2 (hnO k hk)⟩
   have h4:=(((bP.o.and hoff).and hrow).TB (fun k=>p.bad k\/(Value.slice Pt tq.length kt).ownBlock=some k) (fun k hk=>hk.elim (fun h=>bP.o.2.2.2.2.1.2 k h) (fun h=>(hown k h).2)) (Kd.cM (Kd.bQ (Kd.fW cC.o.2.2.2.2.2.2.2.1) (fun k hk=>⟨⟨hk.1.1.1,fun hb=>hb.elim hk.1.1.2 (fun h=>by have:=(hown k h).1;have:=hk.2.2.1;omega)⟩,hk.1.2⟩)) uV.o));have HQ:=hd hown;have HP:=hd h4;clear hown hnO hoff hrow h4;have adt:((k:Int)<(n:Int))/\ ¬((tq.length:Int)<4)\/ ¬((k:Int)<(n:Int)):=by rcases hex with⟨a,b⟩|a;exact .inl ⟨by omega,by omega⟩;exact .inr (by omega)
   clear hex hk;rcases adt with⟨g1,g2⟩|g1
   all_goals
    go_wp2_with fail
    clear oA;have hR1: ∀V,(fun V=>(R V/\jd (jJ p qi nZ) W3 V)/\(bl V 0 (fun k=>some k=(Value.slice Pt tq.length kt).ownBlock) (Value.slice Pt tq.length kt) tq/\ ∀k,(Value.slice Pt tq.length kt).ownBlock=some k->V.heap[k]? =W4.heap[k]?)) V->R V:=fun V hV=>hV.1.1
    refine(j7 (p:= {p with bad:=fun k=>p.bad k\/(Value.slice Pt tq.length kt).ownBlock=some k}) (R:=(fun V=>(R V/\jd (jJ p qi nZ) W3 V)/\(bl V 0 (fun k=>some k=(Value.slice Pt tq.length kt).ownBlock) (Value.slice Pt tq.length kt) tq/\ ∀k,(Value.slice Pt tq.length kt).ownBlock=some k->V.heap[k]? =W4.heap[k]?))) HP.o (HT.o.weak hR1) (HE.o.weak hR1) (by have:=gZ.o.hL;omega) (by have:=gZ.o.Bg;omega) 127 (by have:=Gs.o;have:=HB.o;omega) (by have:=Gs.o;have:=HB.o;omega)).mono ?_;rintro e W5⟨rfl,x5,ye,uW,pR,h5⟩
    have hno: ∀k,(Value.slice Pt tq.length kt).ownBlock=some k-> ¬jJ {p with bad:=fun k=>p.bad k\/(Value.slice Pt tq.length kt).ownBlock=some k} ye uW k:=fun k hk=>by
     obtain⟨cells,q,h⟩:=G4.o k hk;exact h5.Sy (fun V hV=>(hV.2.2 k hk).trans h)
    have H5:=hd h5;have HNO:=hd hno;have kI:=hd pR;clear h5 hno pR;have hsz:W3.heap.size<=W5.heap.size:=H5.o.get.1.2.size;have hfr: ∀k,W5.heap.size<=k-> ¬jJ {p with bad:=fun k=>p.bad k\/(Value.slice Pt tq.length kt).ownBlock=some k} ye uW k/\ ¬p.bad k:=fun k hk=>⟨fun ho=>by have:=H5.o.iC ho;omega,fun hb=>by have:=cC.o.2.2.2.2.1.2 k hb;omega⟩
    have hHO:bl W5 0 (fun k=> ¬jJ {p with bad:=fun k=>p.bad k\/(Value.slice Pt tq.length kt).ownBlock=some k} ye uW k/\ ¬p.bad k) (Value.slice Pt tq.length kt) tq:=Kd.bQ H5.o.get.2.1 (fun k hk=>⟨HNO.o k hk.symm,fun hb=>by have:=cC.o.2.2.2.2.1.2 k hb;have:=(HQ.o k hk.symm).1;omega⟩);have uN:(tq.length+1)*8<=140737488355328:=by have:=HTL.o;omega
    have HHO:=hd hHO;have Qb:=hd hfr;have Sz:=hd hsz;clear hHO hfr hsz
    go_wp2_with (first|(at_builtin;(refine Kd.fc (Kd.int .i64) (w0:=W5) 0 rfl (.tmp 129) (.tmp 131) 23 3 (.int .i64 0) 8 rfl underlying23 cQ rfl (dG 0) (dG 7) (Value.slice Pt tq.length kt) tq (j2:Int) [.int .i64 j2] (fun k=> ¬jJ {p with bad:=fun k=>p.bad k\/(Value.slice Pt tq.length kt).ownBlock=some k} ye uW k/\ ¬p.bad k) (fun k=>(¬jJ {p with bad:=fun k=>p.bad k\/(Value.slice Pt tq.length kt).ownBlock=some k} ye uW k/\ ¬p.bad k)/\some k≠(Value.slice Pt tq.length kt).ownBlock) rfl rfl rfl (fun _ hk=>hk) Qb.o HHO.o ⟨rfl,rfl,rfl,aU _,fun _ _=>rfl⟩ (Nat.zero_le _) uN ?_);intro v9 w9 hR hB hG hat;obtain⟨P9,k9,e9⟩:=Kd.ai hR;generalize (tq++ [(j2:Int)]).length=n9 at e9;subst e9;have od:=hd hR;have xX:=hd hG;clear hR hB hG hat uN))
    have h6:aG R w9 p x5 ye uW:=by
     have a:=aG.grown (R2:=fun V=>R V/\jd (jJ p qi nZ) W3 V) H5.o xX.o HNO.o (fun k hk=> .inr hk) (LC (H5.o.weak (fun V hV=>hV.1)) cC.o.2.2.2.2.2.2.2.2 xX.o (fun k hk=>⟨(HQ.o k hk).1,aj ((H5.o.get.2.2 k hk).trans (G4.o k hk).choose_spec.choose_spec)⟩));exact(a.weak (fun V hV=>hV.1)).TB p.bad (fun k hk=>a.2.2.2.2.1.2 k (.inl hk)) (Kd.bQ a.2.2.2.2.2.2.2.1 (fun k hk=>⟨⟨hk.1.1,fun hb=>hk.1.2 (.inl hb)⟩,hk.2⟩))
    refine(JF h6 ⟨14,0,0,0,tq++ [(j2:Int)]⟩ _ (Kd.bQ od.o (fun k hk=>⟨⟨⟨⟨fun e=>hk.1 (.inl e),fun e=>hk.1 (.inr (.inl e))⟩,hk.2⟩,fun e=>hk.1 (.inr (.inr (.inl e)))⟩,fun e=>hk.1 (.inr (.inr (.inr e)))⟩)) (by have:=Gs.o;have u:=kI.o;have:=HB.o;unfold Up at u;omega)).mono ?_;rintro e W6⟨rfl,x6,O7,O8,rfl,h6⟩;have oa:=hd h6;clear h6;obtain⟨x6,F2⟩:=ex (fT.mk x5.s (x5.code++ [⟨14,0,0,0,tq++ [(j2:Int)]⟩]) x5.left x5.pos);rw[<-F2]at oa;have Dz:=hd (show Up 0 1 x5 x6 by subst F2;exact⟨rfl,by simp,rfl⟩);clear F2;have gX:=hd (kI.o.trans Dz.o)
    go_wp2_with fail
    refine(rB oa.o HT.o height (by have:=Gs.o;have u4:=gX.o;unfold Up at u4;omega) (by have:=Gs.o;have:=HB.o;have u4:=gX.o;unfold Up at u4;omega)).mono ?_;rintro e W7⟨rfl,y,DZ,D8,hu,h9⟩
    go_wp2_with fail
    go_ret;exact⟨false,rfl,y,_,_,(by have:=Gs.o;have u4:=gX.o;unfold Up at u4;unfold De at hu;exact⟨by omega,by omega,by omega⟩),h9⟩
 ·subst h
  have Om:=gy bE.o iL.o 11 10
  go_wp2_with fail
  clear Om;refine(jo bE.o HT.o HE.o (by have:=gZ.o.hL;omega) (by have:=gZ.o.Bg;omega) (AR) (cR) (S.f1) (fun W hW=>(Af.o W hW).2.2.2) (by have:=gZ.o.hS1;omega) height (by have:=HH.o;have:=HB.o;have u:=fP.o;unfold Up at u;omega) (by have:=HH.o;have:=HB.o;have u:=fP.o;unfold Up at u;omega) (by have:=HH.o;have:=HB.o;have u:=fP.o;unfold Up at u;omega)).mono ?_;rintro e W2⟨rfl,x2,Bf,yb,Qa,h2⟩;have bw:=hd h2;have qf:=hd (show height+(S.f1).length<=x2.s.length/\x2.s.length<=x0.s.length+8/\x2.code.length<=x0.code.length+8/\x2.left=x0.left by have u:=fP.o;have:=gZ.o.hS1;unfold Up at u;unfold Nd at Qa;omega);clear h2 Qa
  go_wp2_with fail
  refine(bY bw.o _ _ _ _ (by have:=qf.o;have:=HB.o;omega)).mono ?_;rintro e W3⟨rfl,x3,qi,nZ,nu,h3⟩;have cC:=hd h3;have gu:=hd (show Up 0 1 x2 x3 from nu);clear h3 nu
  go_wp2_with fail
  refine(rB cC.o HT.o height (by have:=qf.o;have u3:=gu.o;unfold Up at u3;omega) (by have:=qf.o;have:=HB.o;have u3:=gu.o;unfold Up at u3;omega)).mono ?_;rintro e W4⟨rfl,y,DZ,D8,hu,h9⟩
  go_wp2_with fail
  go_ret;exact⟨false,rfl,y,_,_,(by have:=qf.o;have u3:=gu.o;unfold Up at u3;unfold De at hu;exact⟨by omega,by omega,by omega⟩),h9⟩
 ·skip
  subst h;obtain⟨N,hN⟩:=ex (M.f1.length+M.f2.length);have a1:(M.f1.length:Int)+(M.f2.length:Int)=(N:Int):=by omega
  have Ch:=hd (show 0<N/\N<=2000 by have:=gZ.o.h12;have:=gZ.o.h1;have:=gZ.o.h2;omega);have b1:N<=4611686018427387904:=by have:=Ch.o;omega
  clear hN;have Pd:=hd (kg _ _ a1 b1);clear a1 b1
  go_wp2_with fail
  refine jk 226 (fun d u W=> ∃(k:Nat) (y:fT) (vS vC:Value),d+k=N/\u 0= .pointer (some ⟨p.g,0,none⟩)/\u 1= .int .i64 height/\u 10= .int .i64 k/\Hid (aG R W p y vS vC)/\Hid (Up 0 0 x1 y)) N rfl rfl ⟨0,x1,_,_,rfl,rfl,rfl,rfl,bE,hd ⟨rfl,rfl,rfl⟩⟩ ?_;intro d u W2 q hI hq;obtain⟨k,x2,Bf,yb,hk,h0,h1,h10,bw,ep⟩:=hI;simp only[List.range,List.range.loop,List.map_cons,List.map_nil,h0,h1,h10]at hq;subst hq;clear h0 h1 h10;have y2:=gy bw.o iL.o 2 1;have y3:=gy bw.o iL.o 3 2;have y16:=(aa bw.o.1 16).trans (ac3 bw.o.2.1 _ _ _);by_cases bI:k<N
  ·skip
   have g1:((k:Int)<(N:Int)):=by omega
   have HK:=hd (show(d-1<d/\d-1+(k+1)=N)/\k<N from⟨⟨by omega,by omega⟩,bI⟩);clear hk bI;have w1:=Pd.o
   go_wp2_with fail
   go_quiet (fail)
   go_wp2_with fail
   clear y2 y3 y16 g1;have bw:=hd (bw.o.drewN nq);generalize W2.drewN nq=W2' at bw⊢;obtain⟨W2,rfl⟩:=ex W2';have y0:=(aa bw.o.1 0).trans (jU _ _ _ _);have y2:=gy bw.o iL.o 2 1;have y3:=gy bw.o iL.o 3 2;refine st 22 (fun w'=>w'.cell? ⟨p.g,0,none⟩=some (.pointer (some ⟨p.tb,0,none⟩))/\w'.cell? ⟨p.g,2,none⟩=some (.slice A1 M.f1.length c1)/\w'.cell? ⟨p.g,3,none⟩=some (.slice A2 M.f2.length c2)) [] ⟨y0,y2,y3⟩ (fun ag=>?_);refine cZ 0 173 1 174 2 175 ?_;refine pu 3 176 ?_;refine tk 4 177 ag ?_;refine cZ 7 180 8 181 9 182 ?_;refine pu 10 183 ?_;refine tk 11 184 ag ?_;refine cZ 12 185 13 186 14 187 ?_;refine pu2 15 188 16 189 ?_;refine tk 17 190 ag ?_;refine pu2 18 191 19 192 ?_;refine on 5 (some 178) (fun K hK=>?_);refine ge (bK (bw.o.drewN 1) HT.o 3 (by decide) (by decide)) ?_;rintro e W3⟨r3,q3,Vd,Ve,rfl,h3⟩;obtain⟨x3,cC,gu⟩:=Mf h3;clear h3;clear w1;have e9:=Ch.o;have e8:=HK.o;obtain⟨kk,hkk⟩: ∃kk:Nat,(kk:Int)=(k:Int)+r3:=⟨k+r3.toNat,by omega⟩;obtain⟨m,Jn⟩:=ex (kk%N);have HMN:=hd (show m<N by rw[Jn];exact Nat.mod_lt kk (by omega));have e4: ¬(N:Int)=0:=by omega
   have e5:((N:Int)==0)=false:=by simpa using e4
   have e7: ¬N=0:=by omega
   have b1:kk<=4611686018427387904:=by omega
   have b2:m<=4611686018427387904:=by have:=HMN.o;omega
   have e2:Int.tmod (kk:Int) (N:Int)=(m:Int):=by rw[Int.tmod_eq_emod_of_nonneg (by omega),Jn];simp
   have e3:(kk:Int)%(N:Int)=(m:Int):=by rw[Jn];simp
   have e1:wrap64 ((k:Int)+r3)=(kk:Int):=by rw[<-hkk];exact Bc kk b1
   have e6:=Bc m b2;have w1:=Pd.o;clear hkk Jn e9 e8 b1 b2 Vd Ve;refine⟨_,rfl,?_⟩;refine hK.o _ _ ⟨((aa cC.o.1 0).trans (jU _ _ _ _)),((gy cC.o iL.o 2 1)),((gy cC.o iL.o 3 2))⟩ (fun ag=>?_);clear hK K;refine nm ?_;refine cZ 6 179 20 193 21 11 ?_;refine dn ?_;clear y0 y2 y3 e1 e2 e3 e4 e5 e6 e7 w1;have y1:=gy cC.o iL.o 1 0;have y2:=gy cC.o iL.o 2 1;have y3:=gy cC.o iL.o 3 2;have y4:=gy cC.o iL.o 4 3;have y5:=gy cC.o iL.o 5 4;have y6:=gy cC.o iL.o 6 5;have y7:=gy cC.o iL.o 7 6;have y8:=gy cC.o iL.o 8 7
   go_wp2_with fail
   clear y1 y2 y3 y4 y5 y6 y7 y8;refine(tW M _ (m:Int) w0 W3 OY.o (Af.o _ cC.o.get).1 (by have:=gZ.o.h1;omega) (by have:=gZ.o.h2;omega)).mono ?_;rintro e Wb⟨u1,u2,rfl,s1,s2,hb⟩;obtain⟨A9,c9,rfl,f1⟩:=rA cC.o hb (fun W hW=>(Af.o W hW).1) s1;obtain⟨i7,c10,rfl,f2⟩:=rA cC.o hb (fun W hW=>(Af.o W hW).1) s2;have h9:=(((cC.o.below hb).and f1).and f2).box #[.slice A9 ((Sp.aM M (m:Int)).getD cv).f0.length c9,.slice i7 ((Sp.aM M (m:Int)).getD cv).f1.length c10] 40;clear s1 s2 f1 f2
   go_wp2_with fail
   obtain⟨T,hT⟩:=ex (((Sp.aM M (m:Int)).getD cv));rw[<-hT]at h9⊢;have tD:=hd (show T.f0.length<=8/\T.f1.length<=8 by rw[hT];exact gZ.o.YL _);clear hT;obtain⟨R9,O6⟩: ∃R9:World->Prop,R9=fun V=>((R V/\bf V A9 T.f0)/\bf V i7 T.f1)/\V.heap[Wb.heap.size]? =some (.cells #[.slice A9 T.f0.length c9,.slice i7 T.f1.length c10] 40 (0,0)):=⟨_,rfl⟩
   have ir:=hd (show∀V,R9 V->((R V/\bf V A9 T.f0)/\bf V i7 T.f1)/\V.heap[Wb.heap.size]? =some (.cells #[.slice A9 T.f0.length c9,.slice i7 T.f1.length c10] 40 (0,0))from fun V hV=>by rw[O6]at hV;exact hV);rw[<-O6]at h9;clear O6 hb;generalize Wb.alloc (.cells #[.slice A9 T.f0.length c9,.slice i7 T.f1.length c10] 40)=W4 at h9⊢;have bP:=hd h9;clear h9;have Fx:=hd (HT.o.weak (fun V hV=>(ir.o V hV).1.1.1));have Qm:=hd (HE.o.weak (fun V hV=>(ir.o V hV).1.1.1));have t0:=(aa (ir.o _ bP.o.get).2 1).trans rfl;have Om:=gy bP.o iL.o 11 10;refine st 8 (fun w'=>w'.cell? ⟨Wb.heap.size,1,none⟩=some (.slice i7 T.f1.length c10)/\w'.cell? ⟨p.g,11,none⟩=some (.slice AR S.f1.length cR)) [] ⟨t0,Om⟩ (fun ag=>?_);refine pu 0 203 ?_;refine tk 1 204 ag ?_;refine cZ 2 205 3 206 4 207 ?_;refine pu 5 208 ?_;refine tk 6 209 ag ?_;refine on 7 (some 210) (fun K hK=>?_);refine ge (Ci i7 AR c10 cR T.f1 S.f1 W4.drew (Kd.eL (ir.o _ bP.o.get).1.2) (Kd.eL (Af.o _ (ir.o _ bP.o.get).1.1.1).2.2.2) (by have:=tD.o;omega)) ?_;rintro e w'⟨b,rfl,nn,rfl⟩;refine⟨_,rfl,?_⟩;refine hK.o _ _ ag (fun ag=>?_);clear hK K;refine nm ?_;refine dn ?_;clear t0 Om;have gI:=hd (bP.o.drewN (1+nn));clear bP;have HU:=hd (show Up 0 0 x0 x3 from(fP.o.trans ep.o).trans gu.o);cases b with
   |false=>
    have ew:=uh k (by have:=HK.o;have:=Ch.o;omega)
    go_wp2_with fail
    exact⟨by first|trivial|rfl,by first|trivial|rfl,d-1,HK.o.1.1,k+1,x3,_,_,HK.o.1.2,rfl,rfl,congrArg (Value.int .i64) ew,hd (gI.o.weak (fun V hV=>(ir.o V hV).1.1.1)),hd (ep.o.trans gu.o)⟩
   |true=>
    have t0:=(aa (ir.o _ gI.o.get).2 0).trans rfl
    go_wp2_with fail
    clear t0;refine(jo gI.o Fx.o Qm.o (by have:=gZ.o.hL;omega) (by have:=gZ.o.Bg;omega) A9 c9 T.f0 (fun V hV=>(ir.o V hV).1.1.2) (by have:=tD.o;omega) height (by have u:=HU.o;have:=HH.o;unfold Up at u;omega) (by have u:=HU.o;have:=HB.o;unfold Up at u;omega) (by have u:=HU.o;have:=HB.o;unfold Up at u;omega)).mono ?_;rintro e W6⟨rfl,x6,O7,O8,DA,h6⟩;have oa:=hd h6;have HQ6:=hd (show height+T.f0.length<=x6.s.length/\x6.s.length<=x0.s.length+8/\x6.code.length<=x0.code.length+8/\x6.left=x0.left by have u:=HU.o;have:=tD.o;unfold Up at u;unfold Nd at DA;omega);clear h6 DA
    go_wp2_with fail
    refine(bY oa.o _ _ _ _ (by have:=HQ6.o;have:=HB.o;omega)).mono ?_;rintro e W7⟨rfl,x7,vS7,Tz,TA,h7⟩;have wM:=hd h7;have Bj:=hd (show Up 0 1 x6 x7 from TA);clear h7 TA
    go_wp2_with fail
    refine(rB wM.o Fx.o height (by have:=HQ6.o;have u7:=Bj.o;unfold Up at u7;omega) (by have:=HQ6.o;have:=HB.o;have u7:=Bj.o;unfold Up at u7;omega)).mono ?_;rintro e W8⟨rfl,y,DZ,D8,hu,h9⟩
    go_wp2_with fail
    go_ret;exact⟨false,rfl,y,_,_,(by have:=HQ6.o;have u7:=Bj.o;unfold Up at u7;unfold De at hu;exact⟨by omega,by omega,by omega⟩),h9.weak (fun V hV=>(ir.o V hV).1.1.1)⟩
  ·have g1:decide ((k:Int)<IntKind.i64.wrap ((M.f1.length:Int)+(M.f2.length:Int)))=false:=by rw[ja,Pd.o];exact jP (by omega)
   clear hk bI
   go_wp2_with fail
   go_quiet (fail)
   go_wp2_with fail
   go_ret;exact⟨true,rfl,x2,_,_,(by have u:=fP.o.trans ep.o;have:=HH.o;unfold Up at u;exact⟨by omega,by omega,by omega⟩),bw.o.drewN _⟩
 ·subst h
  have y0:=(aa bE.o.1 0).trans (jU _ _ _ _)
  go_wp2_with fail
  refine(bK bE.o HT.o 4 (by decide) (by decide)).mono ?_;rintro e W2⟨r2,q2,D9,FT,rfl,h2⟩;obtain⟨x2,Bf,yb,rfl,rfl,bw,ep⟩:=Ae h2;clear h2;clear y0;have qf:=hd (show height<=x2.s.length/\x2.s.length<=x0.s.length/\x2.code.length<=x0.code.length/\x2.left=x0.left by have u:=(fP.o.trans ep.o);have:=HH.o;unfold Up at u;omega);by_cases hz:r2>0
  ·have hz1:0<r2:=hz
   go_wp2_with fail
   go_ret;exact⟨true,rfl,x2,_,_,(by have:=qf.o;exact⟨by omega,by omega,by omega⟩),bw.o⟩
  ·have hz1: ¬0<r2:=hz
   go_wp2_with fail
   refine(bY bw.o _ _ _ _ (by have:=qf.o;have:=HB.o;omega)).mono ?_;rintro e W3⟨rfl,x3,qi,nZ,nu,h3⟩;have cC:=hd h3;have gu:=hd (show Up 0 1 x2 x3 from nu);clear h3 nu
   go_wp2_with fail
   refine(rB cC.o HT.o height (by have:=qf.o;have u3:=gu.o;unfold Up at u3;omega) (by have:=qf.o;have:=HB.o;have u3:=gu.o;unfold Up at u3;omega)).mono ?_;rintro e W4⟨rfl,y,DZ,D8,hu,h9⟩
   go_wp2_with fail
   go_ret;exact⟨false,rfl,y,_,_,(by have:=qf.o;have u3:=gu.o;unfold Up at u3;unfold De at hu;exact⟨by omega,by omega,by omega⟩),h9⟩
end Go.Proofs.YthehihjcpiadgaaGreat
