import Derived.Outline
import Derived.RegionIn
import Derived.Test.YthehihjcpiadgaaGreatCheckMadeT2
set_option maxRecDepth 100000
set_option maxHeartbeats 0
set_option linter.all false
open Go.Proofs.Tryz
namespace Go.Proofs.YthehihjcpiadgaaGreat
open Go.RowKit Go.Proofs.Wz.PrintWords Go.Proofs.Wz.bM
def Og(g base:Nat)(w:World)(vT vF:Value)(f:xB)(e:Ending)(w':World):Prop:=
 ∃v1 v2,e= .returned (.agg #[.int .i64 f.f0,v1,v2,.int .i64 f.f2,.bool f.f3])/\Below w.heap.size w w'/\
  bl w' base (fun k=>k≠g/\some k≠vT.ownBlock/\some k≠vF.ownBlock) v1 f.f1.f0/\bl w' base (fun k=>k≠g/\some k≠vT.ownBlock/\some k≠vF.ownBlock) v2 f.f1.f1
def zB(v:Value)(w:World)(e:Ending)(w':World):Prop:=e= .returned v/\Below w.heap.size w w'
theorem rS(w:World)(base g:Nat)(D:Nat->Prop)(fx:List Value)(s:Sp.St)(vT vF:Value)(h:aJ w base g D fx s vT vF)(hI:Sp.cq s)(k:Int)(k0:0<=k)(k1:k<s.F.length):Calls prog 149 #[.pointer (some ⟨g,0,none⟩),.int .i64 k] w (Og g base w vT vF (s.at k)):=by
 obtain⟨j,hj⟩: ∃j:Nat,(s.F.length:Int)-1-k=(j:Int):=⟨((s.F.length:Int)-1-k).toNat,by omega⟩;have hat:s.at k=bB s.F (j:Int):=by unfold Sp.St.at;rw[hj]
 rw[hat];have Tm:=hI.2.1;obtain⟨gf,cap,v1,v2,wJ,sS,acd,Uy,m0,m1,m2,m3,m4,r1,r2,hfz⟩:=rR h j (by omega);obtain⟨f,hf⟩:=ex (bB s.F (j:Int));rw[<-hf]at m0 m3 m4 r1 r2⊢;obtain⟨nC,-,-⟩:=aV h;obtain⟨n,hn⟩:=ex s.F.length;have c12:w.cell? ⟨g,12,none⟩=some (.slice (some ⟨gf,0,none⟩) n cap):=by rw[hn,<-wJ];exact(aa h.1 12).trans (dN h.2.1 _ _ _)
 rw[<-hn]at hj k1 Tm;obtain⟨A1,c1,rfl⟩:=Kd.ai r1;obtain⟨A2,c2,rfl⟩:=Kd.ai r2;have w1:wrap64 ((n:Int)-1)=(n:Int)-1:=Tx.xR (by omega) (by omega);have w2:wrap64 (j:Int)=(j:Int):=Tx.xR (by omega) (by omega);have wi2:IntKind.i64.wrap (j:Int)=(j:Int):=(Aw _).trans w2;have hj0:(0:Int)<=(j:Int):=by omega
 have hj1:(j:Int)<(n:Int):=by omega
 have hj2:j<n:=by omega
 have iK:=hd r1;have ia:=hd r2;have HS:=hd h;clear h hI wJ hfz r1 r2 hf hat hn
 go_enter func149,ntmps149
 go_wp2_with fail
 have q0:=ak (o:=(.cells #[.int .i64 0,.slice none 0 0,.slice none 0 0,.int .i64 0,.bool false] 113)) c12;have p0:=ak (o:=(.cells #[.int .i64 0,.slice none 0 0,.slice none 0 0,.int .i64 0,.bool false] 113)) m0;have p1:=ak (o:=(.cells #[.int .i64 0,.slice none 0 0,.slice none 0 0,.int .i64 0,.bool false] 113)) m1;have p2:=ak (o:=(.cells #[.int .i64 0,.slice none 0 0,.slice none 0 0,.int .i64 0,.bool false] 113)) m2;have p3:=ak (o:=(.cells #[.int .i64 0,.slice none 0 0,.slice none 0 0,.int .i64 0,.bool false] 113)) m3;have p4:=ak (o:=(.cells #[.int .i64 0,.slice none 0 0,.slice none 0 0,.int .i64 0,.bool false] 113)) m4;refine st 15 (fun w'=>w'.cell? ⟨g,12,none⟩=some (.slice (some ⟨gf,0,none⟩) n cap)/\w'.cell? ⟨gf,j*5,none⟩=some (.int .i64 f.f0)/\w'.cell? ⟨gf,j*5+1,none⟩=some (.slice A1 f.f1.f0.length c1)/\w'.cell? ⟨gf,j*5+2,none⟩=some (.slice A2 f.f1.f1.length c2)/\w'.cell? ⟨gf,j*5+3,none⟩=some (.int .i64 f.f2)/\w'.cell? ⟨gf,j*5+4,none⟩=some (.bool f.f3)) [14] ⟨q0,p0,p1,p2,p3,p4⟩ (fun ag=>?_);refine cZ 0 5 1 6 2 7 ?_;refine tk 3 8 ag ?_;refine cZ 4 9 5 10 6 11 ?_;refine tk 7 12 ag ?_;refine cZ 8 13 9 14 10 15 ?_;refine pu2 11 16 12 17 ?_;refine tk 13 18 ag ?_;refine la 14 ?_;refine dn ?_
 go_wp2_with fail
 refine bodyPost_ret (v:= .agg #[.int .i64 f.f0,.slice A1 f.f1.f0.length c1,.slice A2 f.f1.f1.length c2,.int .i64 f.f2,.bool f.f3]) (by simp[results,results149,go_sem]<;>rfl) rfl ?_;refine⟨_,_,rfl,?_,?_,?_⟩
 ·exact(by repeat (first|exact ay _ _|refine aX ?_|refine af ?_ _))
 ·exact Kd.cM iK.o (by repeat (first|exact ay _ _|refine aX ?_|refine af ?_ _))
 ·exact Kd.cM ia.o (by repeat (first|exact ay _ _|refine aX ?_|refine af ?_ _))
theorem nN(op:Int)(A1 A2:Option Addr)(l1 l2 c1 c2:Nat)(ht:Int)(d:Bool)(w:World):Calls prog 150 #[.agg #[.int .i64 op,.slice A1 l1 c1,.slice A2 l2 c2,.int .i64 ht,.bool d]] w (zB (if op=3 then .slice A1 l1 c1 else .slice A2 l2 c2) w):=by
 by_cases h3:op=3
 ·subst h3
  rw[if_pos rfl]
  go_enter func150,ntmps150
  go_wp2_with fail
  go_ret;exact⟨rfl,af (ay _ _) _⟩
 ·have g3:(op==3)=false:=by simpa using h3
  rw[if_neg h3]
  go_enter func150,ntmps150
  go_wp2_with fail
  go_ret;exact⟨rfl,af (ay _ _) _⟩
theorem A8(w:World)(base g:Nat)(D:Nat->Prop)(fx:List Value)(s:Sp.St)(vT vF:Value)(h:aJ w base g D fx s vT vF)(hI:Sp.cq s)(hl:s.T.length+8<=1000000):Calls prog 97 #[.pointer (some ⟨g,0,none⟩)] w (bN g base D fx w vT vF (.tuple #[]) s.chosen):=by
 go_enter func97,ntmps97
 go_wp2_with fail
 refine(cH [127] h hI rfl rfl (by simp)).mono ?_;rintro e W3⟨rfl,DW,DX,m3,h3⟩;obtain⟨s1,hs1⟩:=ex (s.pop [127]);have hI1:Sp.cq s1:=hs1▸Sp.iA hI _;have ht1:s1.T.length+8<=1000000:=by have:=p9 s [127];rw[<-hs1]at this;omega
 rw[<-hs1]at h3;have oK:=hd hs1;have NS:=hd m3;have HH3:=hd h3;clear hs1 m3 h3 h hI hl
 go_wp2_with fail
 refine(pg W3 base g D fx s1 DW DX HH3.o hI1).mono ?_;rintro e W4⟨rfl,Rv,Rw,m4,h4⟩;have Tm:=Sp.qU hI1;have ht2:=Jt s1;obtain⟨a,ha⟩:=ex s1.any;rw[<-ha]at h4 Tm ht2⊢;obtain⟨a1,a2⟩:=a;dsimp only at h4 Tm ht2⊢;have HA:=hd ha;have X6:=hd m4;have HH4:=hd h4;clear ha m4 h4
 go_wp2_with fail
 refine(pg W4 base g D fx a2 Rv Rw HH4.o Tm).mono ?_;rintro e W5⟨rfl,vT5,vF5,m5,h5⟩;have ht3:=Jt a2;obtain⟨b,hb⟩:=ex a2.any;rw[<-hb]at h5 ht3⊢;obtain⟨b1,b2⟩:=b;dsimp only at h5 ht3⊢;have c13:=(aa h5.1 13).trans (dy h5.2.1 _ _ _);have f13:=ah h5.1 13
 have hch:s.chosen=(b2.err (decide (a1≠0)&&decide (b1≠0)&&decide (a1≠b1))).push [max a1 b1]:=by
  unfold Sp.St.chosen;dsimp only;rw[<-oK.o,<-HA.o];dsimp only;rw[<-hb]
 have HB:=hd hb;have Rs:=hd m5;have UO:=hd h5;have Wv:=hd hch;have RV:=hd (show b2.T.length+8<=1000000 by omega);clear hb m5 h5 hch ht1 ht2 ht3 hI1 Tm;obtain⟨bb,ek⟩:=ex b2.bad;rw[<-ek]at c13;have cE:=hd ek;clear ek
 cases bb with
 |true=>
  have HC:Hid True:=hd trivial
  go_wp2_with fail
  refine(cK [max a1 b1] (eC UO.o true) (by simp) rfl (by have:=RV.o;simp;omega)).mono ?_;rintro e W6⟨rfl,ri,rj,m6,h6⟩
  go_wp2_with fail
  go_end0
  refine⟨rfl,ri,rj,(((NS.o.trans X6.o).trans Rs.o).set 13 _).trans m6,?_⟩;rw[Wv.o,show Sp.St.err b2 _=⟨b2.T,b2.F,true⟩from ?_];exact h6;unfold Sp.St.err;rw[<-cE.o];have hc:=HC.o;simp[hc]
 |false=>
  by_cases e1:a1=0
  ·have g1:(a1 !=0)=false:=by simp[e1]
   have HC:=hd e1;clear e1
   go_wp2_with fail
   refine(cK [max a1 b1] (eC UO.o false) (by simp) rfl (by have:=RV.o;simp;omega)).mono ?_;rintro e W6⟨rfl,ri,rj,m6,h6⟩
   go_wp2_with fail
   go_end0
   refine⟨rfl,ri,rj,(((NS.o.trans X6.o).trans Rs.o).set 13 _).trans m6,?_⟩;rw[Wv.o,show Sp.St.err b2 _=⟨b2.T,b2.F,false⟩from ?_];exact h6;unfold Sp.St.err;rw[<-cE.o];have hc:=HC.o;simp[hc]
  ·have g1:(a1 !=0)=true:=by simpa using e1
   by_cases e2:b1=0
   ·have g2:(b1 !=0)=false:=by simp[e2]
    have HC:=hd e2;clear e1 e2
    go_wp2_with fail
    refine(cK [max a1 b1] (eC UO.o false) (by simp) rfl (by have:=RV.o;simp;omega)).mono ?_;rintro e W6⟨rfl,ri,rj,m6,h6⟩
    go_wp2_with fail
    go_end0
    refine⟨rfl,ri,rj,(((NS.o.trans X6.o).trans Rs.o).set 13 _).trans m6,?_⟩;rw[Wv.o,show Sp.St.err b2 _=⟨b2.T,b2.F,false⟩from ?_];exact h6;unfold Sp.St.err;rw[<-cE.o];have hc:=HC.o;simp[hc]
   ·have g2:(b1 !=0)=true:=by simpa using e2
    by_cases e3:a1=b1
    ·have g3:(a1 !=b1)=false:=by simp[e3]
     have HC:=hd e3;clear e1 e2 e3
     go_wp2_with fail
     refine(cK [max a1 b1] (eC UO.o false) (by simp) rfl (by have:=RV.o;simp;omega)).mono ?_;rintro e W6⟨rfl,ri,rj,m6,h6⟩
     go_wp2_with fail
     go_end0
     refine⟨rfl,ri,rj,(((NS.o.trans X6.o).trans Rs.o).set 13 _).trans m6,?_⟩;rw[Wv.o,show Sp.St.err b2 _=⟨b2.T,b2.F,false⟩from ?_];exact h6;unfold Sp.St.err;rw[<-cE.o];have hc:=HC.o;simp[hc]
    ·have g3:(a1 !=b1)=true:=by simpa using e3
     have HC:=hd (And.intro e1 (And.intro e2 e3));clear e1 e2 e3
     go_wp2_with fail
     refine(cK [max a1 b1] (eC UO.o true) (by simp) rfl (by have:=RV.o;simp;omega)).mono ?_;rintro e W6⟨rfl,ri,rj,m6,h6⟩
     go_wp2_with fail
     go_end0
     refine⟨rfl,ri,rj,(((NS.o.trans X6.o).trans Rs.o).set 13 _).trans m6,?_⟩;rw[Wv.o,show Sp.St.err b2 _=⟨b2.T,b2.F,true⟩from ?_];exact h6;unfold Sp.St.err;rw[<-cE.o];have hc:=HC.o;simp[hc]
theorem sZ(W:World)(B k o0 o1 o2 o3 o4:Nat)(h:k≠B)(a b c d e:Value):(((((W.setCell ⟨B,o0,none⟩ a).setCell ⟨B,o1,none⟩ b).setCell ⟨B,o2,none⟩ c).setCell ⟨B,o3,none⟩ d).setCell ⟨B,o4,none⟩ e).heap[k]? =W.heap[k]? :=
 (dX _ ⟨B,o4,none⟩ e k h).trans ((dX _ ⟨B,o3,none⟩ d k h).trans ((dX _ ⟨B,o2,none⟩ c k h).trans ((dX _ ⟨B,o1,none⟩ b k h).trans (dX _ ⟨B,o0,none⟩ a k h))))
theorem Sp.Hy{s:Sp.St}(h:Sp.cq s):Sp.cq s.leave:=by
 have h1:=Sp.iA h s.top.f1.f1;have ht:=Sp.zy h1;have hb:=fun i h0 h9=>Sp.BU h1 i h0 h9
 obtain⟨g1,g2,g3,g4,g5⟩:=h1;have e:s.leave=⟨(s.pop s.top.f1.f1).T.take s.top.f2.toNat,(s.pop s.top.f1.f1).F,s.leave.bad⟩:=by rw[<-Sp.Jw h];rfl
 rw[Sp.Dg]at ht hb;rw[e];refine⟨g1,g2,by simp only[List.length_take];omega,fun i h0 h9=>⟨(g4 i h0 h9).1,?_⟩,g5⟩;have:=hb i h0 h9;simp only[List.length_take];omega
theorem Dj{W:World}{base g gf cap j n:Nat}{D:Nat->Prop}{fx:List Value}{vT v1 v2:Value}{s:Sp.St}(h:aJ W base g D fx s vT (.slice (some ⟨gf,0,none⟩) n cap))(hn:n=j+1)(hl:s.F.length=n)(x:xB)
 (r1:bl W base (fun k=>k≠g/\some k≠vT.ownBlock/\some k≠(Value.slice (some ⟨gf,0,none⟩) n cap).ownBlock) v1 x.f1.f0) (r2:bl W base (fun k=>k≠g/\some k≠vT.ownBlock/\some k≠(Value.slice (some ⟨gf,0,none⟩) n cap).ownBlock) v2 x.f1.f1):
 aJ (((((W.setCell ⟨gf,j*5,none⟩ (.int .i64 x.f0)).setCell ⟨gf,j*5+1,none⟩ v1).setCell ⟨gf,j*5+2,none⟩ v2).setCell ⟨gf,j*5+3,none⟩ (.int .i64 x.f2)).setCell ⟨gf,j*5+4,none⟩ (.bool x.f3)) base g D fx ⟨s.T,s.F.set j x,s.bad⟩ vT (.slice (some ⟨gf,0,none⟩) n cap):=by
 obtain⟨hg,iR,hb,sR,hT,hF,o9,hD⟩:=h;have hne:gf≠g:=(hF.1 gf (by simp[Value.ownBlock])).1;obtain⟨cs,lJ,qc,hcc,oJ⟩:=Kd.kR hF IU (j:Int) (by omega) (by omega)
 have hs:=Kd.IJ hF (j:Int) (by omega) (by omega) (c:=cs) (seg:= [.int .i64 x.f0,v1,v2,.int .i64 x.f2,.bool x.f3]) (j:=0) lJ hcc (show 0+5<=5 from by omega) (x':=x) (kK:=fun k=>(k≠g/\some k≠vT.ownBlock)/\k≠gf) (by
  have hd9:cs.drop (0+5)= []:=List.drop_of_length_le (by rw[lJ];exact aU 5);show L3.M W base _ x (cs.take 0++ [.int .i64 x.f0,v1,v2,.int .i64 x.f2,.bool x.f3]++cs.drop (0+5))
  rw[hd9,List.append_nil,List.take_zero,List.nil_append];exact xC _ _ _ x (Kd.bQ r1 (fun k hk=>⟨⟨hk.1,hk.2.1⟩,fun e=>hk.2.2 (by subst e;rfl)⟩)) (Kd.bQ r2 (fun k hk=>⟨⟨hk.1,hk.2.1⟩,fun e=>hk.2.2 (by subst e;rfl)⟩))) (fun k hk=>hk)
 rw[dF]at hs;refine⟨(sZ W gf g _ _ _ _ _ (Ne.symm hne) _ _ _ _ _).trans hg,iR,hb,sR,?_,?_,o9,fun k hk=>?_⟩
 ·exact Kd.oM hT (fun k hk _=>sZ W gf k _ _ _ _ _ (fun e=>hk.2.1 (by subst e;rfl)) _ _ _ _ _)
 ·exact hs.1
 ·have:=hD k hk
  simp only[World.setCell];simpa using this
theorem Dk(w:World)(base g:Nat)(D:Nat->Prop)(fx:List Value)(s:Sp.St)(vT vF:Value)(h:aJ w base g D fx s vT vF)(hI:Sp.cq s)(hl:s.leave.T.length+s.top.f1.f1.length+s.top.f1.f0.length<=1000000):Calls prog 92 #[.pointer (some ⟨g,0,none⟩)] w (bN g base D fx w vT vF (.tuple #[]) s.other):=by
 have NR:=hd (uB w base g D fx s vT vF h hI (by omega));have HIL:=hd (Sp.Hy hI);have HL:=hd hl;have UE:=hd hI.1;obtain⟨j,hj⟩: ∃j,s.F.length=j+1:=⟨s.F.length-1,by have:=hI.1;omega⟩;have HJ:=hd hj;have nW:=hd (show s.leave.F.length=j+1 by unfold Sp.St.leave;rw[uA];exact hj);clear h hI hl hj
 go_enter func92,ntmps92
 go_wp2_with fail
 refine NR.o.mono ?_;rintro e W⟨v1,v2,rfl,dI,eG,m,hS,q1,q2⟩;obtain⟨A1,c1,rfl⟩:=Kd.ai q1;obtain⟨A2,c2,rfl⟩:=Kd.ai q2;obtain⟨gf,cap,rfl,sS,xd,xe⟩:=fC hS (by rw[nW.o];omega);rw[nW.o]at hS q1 q2 m;have HM:=hd m;have HS:=hd hS;have Qd:=hd q1;have qf:=hd q2;clear m hS q1 q2
 go_wp2_with fail
 have h2:aJ (W.alloc (kM s.top A1 c1 A2 c2)) base g D fx s.leave dI (.slice (some ⟨gf,0,none⟩) (j+1) cap):=aI HS.o _;have m2:=HM.o.alloc (kM s.top A1 c1 A2 c2);have z2:=dh W (kM s.top A1 c1 A2 c2);have q1:=Kd.aZ Qd.o (kM s.top A1 c1 A2 c2);have q2:=Kd.aZ qf.o (kM s.top A1 c1 A2 c2);obtain⟨b,hb⟩:=ex W.heap.size;have hgl:=(aV HS.o).1;have Uy:=(aV HS.o).2.2 gf (by rfl);rw[<-hb]at z2 hgl Uy⊢;clear hb;generalize W.alloc (kM s.top A1 c1 A2 c2)=W2 at h2 m2 z2 q1 q2⊢;have nD:Hid (Calls prog 144 #[.pointer (some ⟨g,0,none⟩)] W2.drew (fun e w'=>e= .returned (.pointer (some ⟨gf,j*5,none⟩))/\ ∃n,w'=W2.drew.drewN n)):=hd (by have:=jT W2.drew base g D fx s.leave dI _ (bT h2 1) HIL.o gf cap (by rw[nW.o]);rw[nW.o,Nat.add_sub_cancel]at this;exact this);have y0:=(aa z2 0).trans rfl;have y1:=(aa z2 1).trans rfl;have y2:=(aa z2 2).trans rfl;have y3:=(aa z2 3).trans rfl;have y4:=(aa z2 4).trans rfl;have fz: ∀i,W2.frozen? ⟨gf,j*5+i,none⟩=false:=by obtain⟨gf2,aco,u1,u2,e,-,-,-,-,-,-,-,-,-,-,hz⟩:=rR h2 j (by rw[nW.o];omega);have e1:gf2=gf:=(by injection e with e1;injection e1 with e1;injection e1 with e1;exact e1.symm);subst e1;exact hz
 have f0:=fz 0;have f1:=fz 1;have f2:=fz 2;have f3:=fz 3;have f4:=fz 4;rw[Nat.add_zero]at f0;clear fz;have cz: ∀i:Nat,i<5-> ∃u,W2.cell? ⟨gf,j*5+i,none⟩=some u:=by obtain⟨gf2,aco,u1,u2,e,-,-,-,p0,p1,p2,p3,p4,-,-,-⟩:=rR h2 j (by rw[nW.o];omega);have e1:gf2=gf:=(by injection e with e1;injection e1 with e1;injection e1 with e1;exact e1.symm);subst e1;intro i hi;have:i=0\/i=1\/i=2\/i=3\/i=4:=(by omega);rcases this with rfl|rfl|rfl|rfl|rfl;exact⟨_,p0⟩;exact⟨_,p1⟩;exact⟨_,p2⟩;exact⟨_,p3⟩;exact⟨_,p4⟩
 obtain⟨u0,d0⟩:=cz 0 (by omega);obtain⟨u1,d1⟩:=cz 1 (by omega);obtain⟨u2,d2⟩:=cz 2 (by omega);obtain⟨u3,d3⟩:=cz 3 (by omega);obtain⟨u4,d4⟩:=cz 4 (by omega);rw[Nat.add_zero]at d0;clear cz;have H2:=hd h2;have M2:=hd m2;have Z2:=hd z2;have Q1:=hd q1;have Q2:=hd q2;clear h2 m2 z2 q1 q2;refine st 9 (fun w'=>w'.cell? ⟨b,0,none⟩=some (.int .i64 s.top.f0)/\w'.cell? ⟨b,1,none⟩=some (.slice A1 s.top.f1.f0.length c1)/\w'.cell? ⟨b,2,none⟩=some (.slice A2 s.top.f1.f1.length c2)/\w'.cell? ⟨b,3,none⟩=some (.int .i64 s.top.f2)/\w'.cell? ⟨b,4,none⟩=some (.bool s.top.f3)) [8] ⟨y0,y1,y2,y3,y4⟩ (fun ag=>?_);refine pu2 0 5 2 7 ?_;refine tk 3 8 ag ?_;refine pu 4 9 ?_;refine tk 5 10 ag ?_;refine pu 6 11 ?_;refine on 1 (some 6) (fun K hK=>?_);refine om func144 (by kernel_rfl) rfl #[.pointer (some ⟨g,0,none⟩)] (by rfl) rfl rfl (by simp only[List.map_toArray,List.map_cons,List.map_nil];rfl) ?_;refine nD.o.mono ?_;rintro e w'⟨rfl,nt,rfl⟩;refine⟨_,rfl,?_⟩;refine hK.o _ _ ag (fun ag=>?_);clear hK K;refine nm ?_;refine pu 7 12 ?_;refine la 8 ?_;refine dn ?_
 go_wp2_with fail
 have h4:=Dj (bT H2.o (1+nt)) rfl nW.o ⟨5,s.top.f1,s.top.f2,false⟩ (Kd.bU Q1.o (1+nt)) (Kd.bU Q2.o (1+nt));have q4:=Kd.oM (w1:=(((((W2.drewN (1+nt)).setCell ⟨gf,j*5,none⟩ (.int .i64 5)).setCell ⟨gf,j*5+1,none⟩ (.slice A1 s.top.f1.f0.length c1)).setCell ⟨gf,j*5+2,none⟩ (.slice A2 s.top.f1.f1.length c2)).setCell ⟨gf,j*5+3,none⟩ (.int .i64 s.top.f2)).setCell ⟨gf,j*5+4,none⟩ (.bool false)) (Kd.bU Q1.o (1+nt)) (fun k hk _=>sZ (W2.drewN (1+nt)) gf k _ _ _ _ _ (fun e=>hk.2.2 (by subst e;rfl)) _ _ _ _ _);have m4:=M2.o.trans ((((((((Mv.refl g W2 dI (.slice (some ⟨gf,0,none⟩) (j+1) cap)).drewN (1+nt)).Kn (gf:=gf) rfl (j*5) (.int .i64 5)).Kn (gf:=gf) rfl (j*5+1) (.slice A1 s.top.f1.f0.length c1)).Kn (gf:=gf) rfl (j*5+2) (.slice A2 s.top.f1.f1.length c2)).Kn (gf:=gf) rfl (j*5+3) (.int .i64 s.top.f2)).Kn (gf:=gf) rfl (j*5+4) (.bool false)));have H4:=hd h4;have M4:=hd m4;have Q4:=hd q4;clear h4 m4 q4;refine(dP _ base g D fx _ dI _ _ H4.o s.top.f1.f0 (fO H4.o Q4.o) (by have:=HL.o;show s.leave.T.length+_<=_;omega)).mono ?_;rintro e w'⟨rfl,qu,sY,m5,h5⟩;have M5:=hd m5;have H5:=hd h5;clear m5 h5
 go_wp2_with fail
 go_end0
 refine⟨rfl,qu,sY,M4.o.trans M5.o,?_⟩;have e:s.other=Sp.St.push ⟨s.leave.T,s.leave.F.set j ⟨5,s.top.f1,s.top.f2,false⟩,s.leave.bad⟩ s.top.f1.f0:=by unfold Sp.St.other;rw[nW.o,Nat.add_sub_cancel]
 rw[e];exact H5.o
theorem lB{W:World}{base:Nat}{E:Sp.Env}{cs:List Value}{vL v1 v2:Value}(hE:dO W base E cs vL v1 v2)(a:Int)(h0:0<=a)(h1:a<E.L.length):
 ∃P kL,vL= .slice (some P) E.L.length kL/\W.cell? (P.add a.toNat)=some (.int .i64 (rd E.L a)):=by
 obtain⟨w0,rfl,hM,hb0,r1,r2,r3⟩:=hE;obtain⟨A,c,rfl⟩:=Kd.ai r1;obtain⟨ad,rfl,hc⟩:=Kd.fQ (Kd.bA r1).2.2 a h0 (by omega);exact⟨ad,c,rfl,hc⟩
theorem rq{W:World}{base:Nat}{E:Sp.Env}{A0 A1 A2 A3 A4 A5 A6 A7:Option Addr}{c0 c1 c2 c3 c4 c5 c6 c7:Nat}{vL v1 v2:Value}(hE:dO W base E [.slice A0 E.M.f0.length c0,.slice A1 E.M.f1.length c1,.slice A2 E.M.f2.length c2,.slice A3 E.M.f3.length c3,.slice A4 E.M.f4.length c4,.slice A5 E.M.f5.length c5,.slice A6 E.M.f6.length c6,.slice A7 E.M.f7.length c7] vL v1 v2)(a:Int)(h0:0<=a)(h1:a<E.M.f4.length):
 ∃P,A4=some P/\W.cell? (P.add (a.toNat*3))=some (.int .i64 (dg E.M.f4 a).f0)/\W.cell? ⟨(P.add (a.toNat*3)).block,(P.add (a.toNat*3)).off+1,none⟩=some (.bool (dg E.M.f4 a).f1):=by
 obtain⟨B0,d0,B1,d1,B2,d2,B3,d3,B4,d4,B5,d5,B6,d6,B7,d7,he,l0,g0,l1,g1,l2,g2,l3,g3,l4,g4,-⟩:=aD (fq hE)
 have e4:A4=B4:=by
  injection he with _ he;injection he with _ he;injection he with _ he;injection he with _ he;injection he with he _;injection he
 subst e4;obtain⟨ad,rfl,e0,e1,-⟩:=qG g4 a h0 (by omega);exact⟨ad,rfl,e0,e1⟩
theorem KT(w:World)(base g:Nat)(E:Sp.Env)(cs:List Value)(vL v1 v2:Value)(s:Sp.St)(vT vF:Value)(h:aJ w base g (di vL v1 v2) (cs++ [vL,v1,v2]) s vT vF)(hE:dO w base E cs vL v1 v2)(hI:Sp.cq s)(hl:s.T.length+8<=1000000)(a b n:Int)(A:Option Addr)(l c:Nat)(ha0:0<=a)(ha1:a<E.L.length):Calls prog 98 #[.pointer (some ⟨g,0,none⟩),bX 32 a b n (.slice A l c)] w (bN g base (di vL v1 v2) (cs++ [vL,v1,v2]) w vT vF (.tuple #[]) (s.push [rd E.L a])):=by
 obtain⟨P,kL,rfl,-⟩:=lB hE a ha0 ha1;obtain⟨x,hx⟩:=ex (rd E.L a);have Dl:=hd hx;rw[<-hx];clear hx;obtain⟨A0,c0,A1,c1,A2,c2,A3,c3,A4,c4,A5,c5,A6,c6,A7,c7,rfl,-⟩:=aD (fq hE);have h2:=aI h (av 32 a b n (.slice A l c));have e2:=aC hE (af (ay _ _) (av 32 a b n (.slice A l c)));have m2:=(Mv.refl g w vT vF).alloc (av 32 a b n (.slice A l c));have z2:(w.alloc (av 32 a b n (.slice A l c))).heap[w.heap.size]? =some (.cells #[.int .i64 32,.int .i64 a,.int .i64 b,.int .u64 n,.slice A l c] 25 (0,0)):=dh w _;obtain⟨bx,gG⟩:=ex w.heap.size;have js:bx<=w.heap.size:=by omega
 go_enter func98,ntmps98
 go_wp2_with fail
 rw[<-gG]at z2⊢;generalize w.alloc (av 32 a b n (.slice A l c))=X at h2 e2 m2 z2⊢;have H2:=hd h2;have E2:=hd e2;have M2:=hd m2;have Z2:=hd z2;have HW:=hd h;have ni:=hd gG;clear h2 e2 m2 z2 h hE gG;have HL:=hd hl;have HI:=hd hI;clear hl hI;have y8:=(aa H2.o.1 8).trans rfl;have t1:=(aa Z2.o 1).trans rfl;have ex9:X.cell? (P.add a.toNat)=some (.int .i64 x):=by obtain⟨P2,k2,hv,hc⟩:=lB E2.o a ha0 ha1;have e1:P2=P:=(by injection hv with e1;injection e1 with e1;exact e1.symm);subst e1;rw[Dl.o];exact hc
 refine st 11 (fun w'=>w'.cell? ⟨g,8,none⟩=some (.slice (some P) E.L.length kL)/\w'.cell? ⟨bx,1,none⟩=some (.int .i64 a)/\w'.cell? (P.add a.toNat)=some (.int .i64 x)) [10] ⟨y8,t1,ex9⟩ (fun ag=>?_);refine cZ 0 8 1 9 2 10 ?_;refine pu 3 11 ?_;refine tk 4 12 ag ?_;refine pu 5 13 ?_;refine tk 6 14 ag ?_;refine pu 7 15 ?_;refine tk 8 16 ag ?_;refine on 9 (some 17) (fun K hK=>?_);rw[if_pos (by rfl)]
 go_simp
 refine hK.o _ _ (by obtain⟨s0,s1,s2⟩:=ag;exact⟨ak s0,ak s1,ak s2⟩) (fun ag=>?_);clear hK K;refine lk 10 (some 18) (fun K hK=>?_);refine om func146 (by kernel_rfl) rfl #[.pointer (some ⟨g,0,none⟩),.slice (some ⟨X.heap.size,0,none⟩) 1 1] (by rfl) rfl rfl (by simp only[List.map_toArray,List.map_cons,List.map_nil];rfl) ?_;refine(cK [x] (bT H2.o 1) rfl rfl (by have:=HL.o;simp;omega)).mono ?_;rintro e W1⟨rfl,qV,qW,m1,h1⟩;have MM1:=hd (Mv.ou (n:=1) m1);have HH1:=hd h1;clear m1 h1;refine⟨_,rfl,?_⟩;refine hK.o _ _ ?_;clear hK K;refine dn ?_;clear y8 t1 ex9
 go_wp2_with fail
 go_end0
 exact⟨rfl,qV,qW,(M2.o.trans MM1.o),HH1.o⟩
theorem KU(w:World)(base g:Nat)(E:Sp.Env)(cs:List Value)(vL v1 v2:Value)(s:Sp.St)(vT vF:Value)(h:aJ w base g (di vL v1 v2) (cs++ [vL,v1,v2]) s vT vF)(hE:dO w base E cs vL v1 v2)(hI:Sp.cq s)(hl:s.T.length+8<=1000000)(a b n:Int)(A:Option Addr)(l c:Nat)(ha0:0<=a)(ha1:a<E.L.length):Calls prog 98 #[.pointer (some ⟨g,0,none⟩),bX 33 a b n (.slice A l c)] w (bN g base (di vL v1 v2) (cs++ [vL,v1,v2]) w vT vF (.tuple #[]) (s.pop [rd E.L a])):=by
 obtain⟨P,kL,rfl,-⟩:=lB hE a ha0 ha1;obtain⟨x,hx⟩:=ex (rd E.L a);have Dl:=hd hx;rw[<-hx];clear hx;obtain⟨A0,c0,A1,c1,A2,c2,A3,c3,A4,c4,A5,c5,A6,c6,A7,c7,rfl,-⟩:=aD (fq hE);have h2:=aI h (av 33 a b n (.slice A l c));have e2:=aC hE (af (ay _ _) (av 33 a b n (.slice A l c)));have m2:=(Mv.refl g w vT vF).alloc (av 33 a b n (.slice A l c));have z2:(w.alloc (av 33 a b n (.slice A l c))).heap[w.heap.size]? =some (.cells #[.int .i64 33,.int .i64 a,.int .i64 b,.int .u64 n,.slice A l c] 25 (0,0)):=dh w _;obtain⟨bx,gG⟩:=ex w.heap.size;have js:bx<=w.heap.size:=by omega
 go_enter func98,ntmps98
 go_wp2_with fail
 rw[<-gG]at z2⊢;generalize w.alloc (av 33 a b n (.slice A l c))=X at h2 e2 m2 z2⊢;have H2:=hd h2;have E2:=hd e2;have M2:=hd m2;have Z2:=hd z2;have HW:=hd h;have ni:=hd gG;clear h2 e2 m2 z2 h hE gG;have HL:=hd hl;have HI:=hd hI;clear hl hI;have y8:=(aa H2.o.1 8).trans rfl;have t1:=(aa Z2.o 1).trans rfl;have ex9:X.cell? (P.add a.toNat)=some (.int .i64 x):=by obtain⟨P2,k2,hv,hc⟩:=lB E2.o a ha0 ha1;have e1:P2=P:=(by injection hv with e1;injection e1 with e1;exact e1.symm);subst e1;rw[Dl.o];exact hc
 refine st 11 (fun w'=>w'.cell? ⟨g,8,none⟩=some (.slice (some P) E.L.length kL)/\w'.cell? ⟨bx,1,none⟩=some (.int .i64 a)/\w'.cell? (P.add a.toNat)=some (.int .i64 x)) [10] ⟨y8,t1,ex9⟩ (fun ag=>?_);refine cZ 0 21 1 22 2 23 ?_;refine pu 3 24 ?_;refine tk 4 25 ag ?_;refine pu 5 26 ?_;refine tk 6 27 ag ?_;refine pu 7 28 ?_;refine tk 8 29 ag ?_;refine on 9 (some 30) (fun K hK=>?_);rw[if_pos (by rfl)]
 go_simp
 refine hK.o _ _ (by obtain⟨s0,s1,s2⟩:=ag;exact⟨ak s0,ak s1,ak s2⟩) (fun ag=>?_);clear hK K;refine lk 10 (some 31) (fun K hK=>?_);refine om func145 (by kernel_rfl) rfl #[.pointer (some ⟨g,0,none⟩),.slice (some ⟨X.heap.size,0,none⟩) 1 1] (by rfl) rfl rfl (by simp only[List.map_toArray,List.map_cons,List.map_nil];rfl) ?_;refine(cH [x] (bT H2.o 1) HI.o rfl rfl (by simp)).mono ?_;rintro e W2⟨rfl,qu,sY,m2,h2⟩;have MM2:=hd (Mv.ou (n:=1) m2);have Ww:=hd h2;clear m2 h2;refine⟨_,rfl,?_⟩;refine hK.o _ _ ?_;clear hK K;refine dn ?_;clear y8 t1 ex9
 go_wp2_with fail
 go_end0
 exact⟨rfl,qu,sY,(M2.o.trans MM2.o),Ww.o⟩
theorem KV(w:World)(base g:Nat)(E:Sp.Env)(cs:List Value)(vL v1 v2:Value)(s:Sp.St)(vT vF:Value)(h:aJ w base g (di vL v1 v2) (cs++ [vL,v1,v2]) s vT vF)(hE:dO w base E cs vL v1 v2)(hI:Sp.cq s)(hl:s.T.length+8<=1000000)(a b n:Int)(A:Option Addr)(l c:Nat)(ha0:0<=a)(ha1:a<E.L.length):Calls prog 98 #[.pointer (some ⟨g,0,none⟩),bX 34 a b n (.slice A l c)] w (bN g base (di vL v1 v2) (cs++ [vL,v1,v2]) w vT vF (.tuple #[]) ((s.pop [rd E.L a]).push [rd E.L a])):=by
 obtain⟨P,kL,rfl,-⟩:=lB hE a ha0 ha1;obtain⟨x,hx⟩:=ex (rd E.L a);have Dl:=hd hx;rw[<-hx];clear hx;obtain⟨A0,c0,A1,c1,A2,c2,A3,c3,A4,c4,A5,c5,A6,c6,A7,c7,rfl,-⟩:=aD (fq hE);have h2:=aI h (av 34 a b n (.slice A l c));have e2:=aC hE (af (ay _ _) (av 34 a b n (.slice A l c)));have m2:=(Mv.refl g w vT vF).alloc (av 34 a b n (.slice A l c));have z2:(w.alloc (av 34 a b n (.slice A l c))).heap[w.heap.size]? =some (.cells #[.int .i64 34,.int .i64 a,.int .i64 b,.int .u64 n,.slice A l c] 25 (0,0)):=dh w _;obtain⟨bx,gG⟩:=ex w.heap.size;have js:bx<=w.heap.size:=by omega
 go_enter func98,ntmps98
 go_wp2_with fail
 rw[<-gG]at z2⊢;generalize w.alloc (av 34 a b n (.slice A l c))=X at h2 e2 m2 z2⊢;have H2:=hd h2;have E2:=hd e2;have M2:=hd m2;have Z2:=hd z2;have HW:=hd h;have ni:=hd gG;clear h2 e2 m2 z2 h hE gG;have HL:=hd hl;have HI:=hd hI;clear hl hI;have y8:=(aa H2.o.1 8).trans rfl;have t1:=(aa Z2.o 1).trans rfl;have ex9:X.cell? (P.add a.toNat)=some (.int .i64 x):=by obtain⟨P2,k2,hv,hc⟩:=lB E2.o a ha0 ha1;have e1:P2=P:=(by injection hv with e1;injection e1 with e1;exact e1.symm);subst e1;rw[Dl.o];exact hc
 refine st 11 (fun w'=>w'.cell? ⟨g,8,none⟩=some (.slice (some P) E.L.length kL)/\w'.cell? ⟨bx,1,none⟩=some (.int .i64 a)/\w'.cell? (P.add a.toNat)=some (.int .i64 x)) [10] ⟨y8,t1,ex9⟩ (fun ag=>?_);refine cZ 0 34 1 35 2 36 ?_;refine pu 3 37 ?_;refine tk 4 38 ag ?_;refine pu 5 39 ?_;refine tk 6 40 ag ?_;refine pu 7 41 ?_;refine tk 8 42 ag ?_;refine on 9 (some 43) (fun K hK=>?_);rw[if_pos (by rfl)]
 go_simp
 refine hK.o _ _ (by obtain⟨s0,s1,s2⟩:=ag;exact⟨ak s0,ak s1,ak s2⟩) (fun ag=>?_);clear hK K;refine lk 10 (some 44) (fun K hK=>?_);refine om func145 (by kernel_rfl) rfl #[.pointer (some ⟨g,0,none⟩),.slice (some ⟨X.heap.size,0,none⟩) 1 1] (by rfl) rfl rfl (by simp only[List.map_toArray,List.map_cons,List.map_nil];rfl) ?_;refine(cH [x] (bT H2.o 1) HI.o rfl rfl (by simp)).mono ?_;rintro e W3⟨rfl,DW,DX,m3,h3⟩;have MM3:=hd (Mv.ou (n:=1) m3);have HH3:=hd h3;clear m3 h3;refine⟨_,rfl,?_⟩;refine hK.o _ _ ?_;clear hK K;refine dn ?_;clear y8 t1 ex9
 go_wp2_with fail
 have bne:bx≠g/\some bx≠vT.ownBlock/\some bx≠vF.ownBlock:=⟨by have:=(aV HW.o).1;have:=ni.o;omega,fun e=>by have:=(aV HW.o).2.1 _ e.symm;have:=ni.o;omega,fun e=>by have:=(aV HW.o).2.2 _ e.symm;have:=ni.o;omega⟩;have Z3:=hd ((MM3.o.block bx (aj Z2.o) bne.1 bne.2.1 bne.2.2).trans Z2.o);have E3:=hd (nX H2.o MM3.o E2.o);clear bne;have y8:=(aa HH3.o.1 8).trans rfl;have t1:=(aa Z3.o 1).trans rfl;have ex9:W3.cell? (P.add a.toNat)=some (.int .i64 x):=by obtain⟨P2,k2,hv,hc⟩:=lB E3.o a ha0 ha1;have e1:P2=P:=(by injection hv with e1;injection e1 with e1;exact e1.symm);subst e1;rw[Dl.o];exact hc
 refine st 11 (fun w'=>w'.cell? ⟨g,8,none⟩=some (.slice (some P) E.L.length kL)/\w'.cell? ⟨bx,1,none⟩=some (.int .i64 a)/\w'.cell? (P.add a.toNat)=some (.int .i64 x)) [10] ⟨y8,t1,ex9⟩ (fun ag=>?_);refine cZ 0 45 1 46 2 47 ?_;refine pu 3 48 ?_;refine tk 4 49 ag ?_;refine pu 5 50 ?_;refine tk 6 51 ag ?_;refine pu 7 52 ?_;refine tk 8 53 ag ?_;refine on 9 (some 54) (fun K hK=>?_);rw[if_pos (by rfl)]
 go_simp
 refine hK.o _ _ (by obtain⟨s0,s1,s2⟩:=ag;exact⟨ak s0,ak s1,ak s2⟩) (fun ag=>?_);clear hK K;refine lk 10 (some 55) (fun K hK=>?_);refine om func146 (by kernel_rfl) rfl #[.pointer (some ⟨g,0,none⟩),.slice (some ⟨W3.heap.size,0,none⟩) 1 1] (by rfl) rfl rfl (by simp only[List.map_toArray,List.map_cons,List.map_nil];rfl) ?_;refine(cK [x] (bT HH3.o 1) rfl rfl (by have:=HL.o;have:=p9 s [x];simp;omega)).mono ?_;rintro e W4⟨rfl,Rv,Rw,m4,h4⟩;have MM4:=hd (Mv.ou (n:=1) m4);have HH4:=hd h4;clear m4 h4;refine⟨_,rfl,?_⟩;refine hK.o _ _ ?_;clear hK K;refine dn ?_;clear y8 t1 ex9
 go_wp2_with fail
 go_end0
 exact⟨rfl,Rv,Rw,((M2.o.trans MM3.o).trans MM4.o),HH4.o⟩
theorem KW(w:World)(base g:Nat)(E:Sp.Env)(cs:List Value)(vL v1 v2:Value)(s:Sp.St)(vT vF:Value)(h:aJ w base g (di vL v1 v2) (cs++ [vL,v1,v2]) s vT vF)(hE:dO w base E cs vL v1 v2)(hI:Sp.cq s)(hl:s.T.length+8<=1000000)(a b n:Int)(A:Option Addr)(l c:Nat)(ha0:0<=a)(ha1:a<E.M.f4.length):Calls prog 98 #[.pointer (some ⟨g,0,none⟩),bX 35 a b n (.slice A l c)] w (bN g base (di vL v1 v2) (cs++ [vL,v1,v2]) w vT vF (.tuple #[]) (s.push [(dg E.M.f4 a).f0])):=by
 obtain⟨x,hx⟩:=ex ((dg E.M.f4 a).f0);have Dl:=hd hx;rw[<-hx];clear hx;obtain⟨A0,c0,A1,c1,A2,c2,A3,c3,A4,c4,A5,c5,A6,c6,A7,c7,rfl,-⟩:=aD (fq hE);obtain⟨P,rfl,-⟩:=rq hE a ha0 ha1;have h2:=aI h (av 35 a b n (.slice A l c));have e2:=aC hE (af (ay _ _) (av 35 a b n (.slice A l c)));have m2:=(Mv.refl g w vT vF).alloc (av 35 a b n (.slice A l c));have z2:(w.alloc (av 35 a b n (.slice A l c))).heap[w.heap.size]? =some (.cells #[.int .i64 35,.int .i64 a,.int .i64 b,.int .u64 n,.slice A l c] 25 (0,0)):=dh w _;obtain⟨bx,gG⟩:=ex w.heap.size;have js:bx<=w.heap.size:=by omega
 go_enter func98,ntmps98
 go_wp2_with fail
 rw[<-gG]at z2⊢;generalize w.alloc (av 35 a b n (.slice A l c))=X at h2 e2 m2 z2⊢;have H2:=hd h2;have E2:=hd e2;have M2:=hd m2;have Z2:=hd z2;have HW:=hd h;have ni:=hd gG;clear h2 e2 m2 z2 h hE gG;have HL:=hd hl;have HI:=hd hI;clear hl hI;have y8:=(aa H2.o.1 4).trans rfl;have t1:=(aa Z2.o 1).trans rfl;have ex9:X.cell? (P.add (a.toNat*3))=some (.int .i64 x):=by obtain⟨P2,hv,hc,-⟩:=rq E2.o a ha0 ha1;have e1:P2=P:=(by injection hv with e1;exact e1.symm);subst e1;rw[Dl.o];exact hc
 refine st 13 (fun w'=>w'.cell? ⟨g,4,none⟩=some (.slice (some P) E.M.f4.length c4)/\w'.cell? ⟨bx,1,none⟩=some (.int .i64 a)/\w'.cell? (P.add (a.toNat*3))=some (.int .i64 x)) [12] ⟨y8,t1,ex9⟩ (fun ag=>?_);refine cZ 0 58 1 59 2 60 ?_;refine pu2 3 61 4 62 ?_;refine tk 5 63 ag ?_;refine pu 6 64 ?_;refine tk 7 65 ag ?_;refine pu2 8 66 9 67 ?_;refine tk 10 68 ag ?_;refine on 11 (some 69) (fun K hK=>?_);rw[if_pos (by rfl)]
 go_simp
 refine hK.o _ _ (by obtain⟨s0,s1,s2⟩:=ag;exact⟨ak s0,ak s1,ak s2⟩) (fun ag=>?_);clear hK K;refine lk 12 (some 70) (fun K hK=>?_);refine om func146 (by kernel_rfl) rfl #[.pointer (some ⟨g,0,none⟩),.slice (some ⟨X.heap.size,0,none⟩) 1 1] (by rfl) rfl rfl (by simp only[List.map_toArray,List.map_cons,List.map_nil];rfl) ?_;refine(cK [x] (bT H2.o 1) rfl rfl (by have:=HL.o;simp;omega)).mono ?_;rintro e W5⟨rfl,vT5,vF5,m5,h5⟩;have MM5:=hd (Mv.ou (n:=1) m5);have UO:=hd h5;clear m5 h5;refine⟨_,rfl,?_⟩;refine hK.o _ _ ?_;clear hK K;refine dn ?_;clear y8 t1 ex9
 go_wp2_with fail
 go_end0
 exact⟨rfl,vT5,vF5,(M2.o.trans MM5.o),UO.o⟩
theorem KX(w:World)(base g:Nat)(E:Sp.Env)(cs:List Value)(vL v1 v2:Value)(s:Sp.St)(vT vF:Value)(h:aJ w base g (di vL v1 v2) (cs++ [vL,v1,v2]) s vT vF)(hE:dO w base E cs vL v1 v2)(hI:Sp.cq s)(hl:s.T.length+8<=1000000)(a b n:Int)(A:Option Addr)(l c:Nat)(ha0:0<=a)(ha1:a<E.M.f4.length):Calls prog 98 #[.pointer (some ⟨g,0,none⟩),bX 36 a b n (.slice A l c)] w (bN g base (di vL v1 v2) (cs++ [vL,v1,v2]) w vT vF (.tuple #[]) ((s.pop [(dg E.M.f4 a).f0]).err (!(dg E.M.f4 a).f1))):=by
 obtain⟨x,hx⟩:=ex ((dg E.M.f4 a).f0);have Dl:=hd hx;rw[<-hx];clear hx;obtain⟨A0,c0,A1,c1,A2,c2,A3,c3,A4,c4,A5,c5,A6,c6,A7,c7,rfl,-⟩:=aD (fq hE);obtain⟨P,rfl,-⟩:=rq hE a ha0 ha1;have h2:=aI h (av 36 a b n (.slice A l c));have e2:=aC hE (af (ay _ _) (av 36 a b n (.slice A l c)));have m2:=(Mv.refl g w vT vF).alloc (av 36 a b n (.slice A l c));have z2:(w.alloc (av 36 a b n (.slice A l c))).heap[w.heap.size]? =some (.cells #[.int .i64 36,.int .i64 a,.int .i64 b,.int .u64 n,.slice A l c] 25 (0,0)):=dh w _;obtain⟨bx,gG⟩:=ex w.heap.size;have js:bx<=w.heap.size:=by omega
 go_enter func98,ntmps98
 go_wp2_with fail
 rw[<-gG]at z2⊢;generalize w.alloc (av 36 a b n (.slice A l c))=X at h2 e2 m2 z2⊢;have H2:=hd h2;have E2:=hd e2;have M2:=hd m2;have Z2:=hd z2;have HW:=hd h;have ni:=hd gG;clear h2 e2 m2 z2 h hE gG;have HL:=hd hl;have HI:=hd hI;clear hl hI;have y8:=(aa H2.o.1 4).trans rfl;have t1:=(aa Z2.o 1).trans rfl;have ex9:X.cell? (P.add (a.toNat*3))=some (.int .i64 x):=by obtain⟨P2,hv,hc,-⟩:=rq E2.o a ha0 ha1;have e1:P2=P:=(by injection hv with e1;exact e1.symm);subst e1;rw[Dl.o];exact hc
 refine st 13 (fun w'=>w'.cell? ⟨g,4,none⟩=some (.slice (some P) E.M.f4.length c4)/\w'.cell? ⟨bx,1,none⟩=some (.int .i64 a)/\w'.cell? (P.add (a.toNat*3))=some (.int .i64 x)) [12] ⟨y8,t1,ex9⟩ (fun ag=>?_);refine cZ 0 73 1 74 2 75 ?_;refine pu2 3 76 4 77 ?_;refine tk 5 78 ag ?_;refine pu 6 79 ?_;refine tk 7 80 ag ?_;refine pu2 8 81 9 82 ?_;refine tk 10 83 ag ?_;refine on 11 (some 84) (fun K hK=>?_);rw[if_pos (by rfl)]
 go_simp
 refine hK.o _ _ (by obtain⟨s0,s1,s2⟩:=ag;exact⟨ak s0,ak s1,ak s2⟩) (fun ag=>?_);clear hK K;refine lk 12 (some 85) (fun K hK=>?_);refine om func145 (by kernel_rfl) rfl #[.pointer (some ⟨g,0,none⟩),.slice (some ⟨X.heap.size,0,none⟩) 1 1] (by rfl) rfl rfl (by simp only[List.map_toArray,List.map_cons,List.map_nil];rfl) ?_;refine(cH [x] (bT H2.o 1) HI.o rfl rfl (by simp)).mono ?_;rintro e W6⟨rfl,ri,rj,m6,h6⟩;have MM6:=hd (Mv.ou (n:=1) m6);have Wx:=hd h6;clear m6 h6;refine⟨_,rfl,?_⟩;refine hK.o _ _ ?_;clear hK K;refine dn ?_;clear y8 t1 ex9
 go_wp2_with fail
 have bne:bx≠g/\some bx≠vT.ownBlock/\some bx≠vF.ownBlock:=⟨by have:=(aV HW.o).1;have:=ni.o;omega,fun e=>by have:=(aV HW.o).2.1 _ e.symm;have:=ni.o;omega,fun e=>by have:=(aV HW.o).2.2 _ e.symm;have:=ni.o;omega⟩;have Z3:=hd ((MM6.o.block bx (aj Z2.o) bne.1 bne.2.1 bne.2.2).trans Z2.o);have E3:=hd (nX H2.o MM6.o E2.o);clear bne;have c13:=(aa Wx.o.1 13).trans (dy Wx.o.2.1 _ _ _);have f13:=ah Wx.o.1 13;have y4:=(aa Wx.o.1 4).trans rfl;have t1:=(aa Z3.o 1).trans rfl;obtain⟨v,hv⟩:=ex ((dg E.M.f4 a).f1);have ex9:W6.cell? ⟨(P.add (a.toNat*3)).block,(P.add (a.toNat*3)).off+1,none⟩=some (.bool v):=by obtain⟨P2,hp,-,hc⟩:=rq E3.o a ha0 ha1;have e1:P2=P:=(by injection hp with e1;exact e1.symm);subst e1;rw[hv];exact hc
 rw[<-hv];clear hv;obtain⟨bb,ek⟩:=ex ((s.pop [x]).bad);rw[<-ek]at c13;have cE:=hd ek;clear ek;cases bb with
 |true=>
  refine st 21 (fun w'=>w'.cell? ⟨g,13,none⟩=some (.bool true)) [20] c13 (fun ag=>?_);refine cZ 0 86 1 87 2 88 ?_;refine pu 3 89 ?_;refine tk 4 90 ag ?_;refine cZ 5 91 6 92 7 93 ?_;refine cZ 8 94 9 95 10 96 ?_;refine cZ 11 97 12 98 13 99 ?_;refine cZ 14 100 15 101 16 102 ?_;refine cZ 17 103 18 104 19 105 ?_;refine la 20 ?_;refine dn ?_
  go_wp2_with fail
  go_end0
  refine⟨rfl,ri,rj,((M2.o.trans MM6.o).set 13 (.bool true)).drewN 1,?_⟩;have e:(s.pop [x]).err (!v)=⟨(s.pop [x]).T,(s.pop [x]).F,true⟩:=by unfold Sp.St.err;rw[<-cE.o];rfl
  rw[e];exact bT (eC Wx.o true) 1
 |false=>
  refine st 21 (fun w'=>w'.cell? ⟨g,13,none⟩=some (.bool false)/\w'.cell? ⟨g,4,none⟩=some (.slice (some P) E.M.f4.length c4)/\w'.cell? ⟨bx,1,none⟩=some (.int .i64 a)/\w'.cell? ⟨(P.add (a.toNat*3)).block,(P.add (a.toNat*3)).off+1,none⟩=some (.bool v)) [20] ⟨c13,y4,t1,ex9⟩ (fun ag=>?_);refine cZ 0 86 1 87 2 88 ?_;refine pu 3 89 ?_;refine tk 4 90 ag ?_;refine cZ 5 91 6 92 7 93 ?_;refine pu2 8 94 9 95 ?_;refine tk 10 96 ag ?_;refine pu 11 97 ?_;refine tk 12 98 ag ?_;refine pu2 13 99 14 100 ?_;refine tk 15 101 ag ?_;refine cZ 16 102 17 103 18 104 ?_;refine pu 19 105 ?_;refine la 20 ?_;refine dn ?_
  go_wp2_with fail
  go_end0
  refine⟨rfl,ri,rj,((M2.o.trans MM6.o).set 13 (.bool (!v))).drewN 1,?_⟩;have e:(s.pop [x]).err (!v)=⟨(s.pop [x]).T,(s.pop [x]).F,(!v)⟩:=by unfold Sp.St.err;rw[<-cE.o];rfl
  rw[e];exact bT (eC Wx.o (!v)) 1
theorem Oh(w:World)(base g:Nat)(E:Sp.Env)(cs:List Value)(vL v1 v2:Value)(s:Sp.St)(vT vF:Value)(h:aJ w base g (di vL v1 v2) (cs++ [vL,v1,v2]) s vT vF)(hE:dO w base E cs vL v1 v2)(hI:Sp.cq s)(hl:s.T.length+8<=1000000)(a b n:Int)(A:Option Addr)(l c:Nat)(hs:fh E.M.f0)(n1:E.M.f1.length<=1000000)(n2:E.M.f2.length<=1000000)(f0: -2147483648<=a)(f9:a<=2147483647)(t8:((Sp.aM E.M a).getD cv).f0.length<=8)(r8:((Sp.aM E.M a).getD cv).f1.length<=8):Calls prog 95 #[.pointer (some ⟨g,0,none⟩),bX 16 a b n (.slice A l c)] w (bN g base (di vL v1 v2) (cs++ [vL,v1,v2]) w vT vF (.tuple #[]) ((s.pop ((Sp.aM E.M a).getD cv).f0).push ((Sp.aM E.M a).getD cv).f1)):=by
 obtain⟨A0,c0,A1,c1,A2,c2,A3,c3,A4,c4,A5,c5,A6,c6,A7,c7,rfl,-⟩:=aD (fq hE);have X7:=hd hE;have qw:=hd hs;have N1:=hd n1;have N2:=hd n2;have F0:=hd f0;have F9:=hd f9;have T8:=hd t8;have R8:=hd r8;clear hs n1 n2 f0 f9 t8 r8;have js:=dc hE;have h2:=aI h (av 16 a b n (.slice A l c));have e2:=aC hE (af (ay _ _) (av 16 a b n (.slice A l c)));have m2:=(Mv.refl g w vT vF).alloc (av 16 a b n (.slice A l c));have z2:(w.alloc (av 16 a b n (.slice A l c))).heap[w.heap.size]? =some (.cells #[.int .i64 16,.int .i64 a,.int .i64 b,.int .u64 n,.slice A l c] 25 (0,0)):=dh w _;have oc:(w.alloc (av 16 a b n (.slice A l c))).heap.size=w.heap.size+1:=by simp
 obtain⟨bx,gG⟩:=ex w.heap.size
 go_enter func95,ntmps95
 go_wp2_with fail
 rw[<-gG]at z2 oc⊢;generalize w.alloc (av 16 a b n (.slice A l c))=X at h2 e2 m2 z2 oc⊢;have H2:=hd h2;have E2:=hd e2;have M2:=hd m2;have Z2:=hd z2;have HW:=hd h;have ni:=hd gG;have Fu:=hd oc;have ki:=hd js;have HI:=hd hI;have HL:=hd hl;clear h2 e2 m2 z2 h hE gG oc js hI hl;obtain⟨y0,y1,y2,y3,y4,y5,y6,y7,-⟩:=gV H2.o;have t1:=(aa Z2.o 1).trans rfl;refine st 13 (fun w'=>w'.cell? ⟨g,0,none⟩=some (.slice A0 E.M.f0.length c0)/\w'.cell? ⟨g,1,none⟩=some (.slice A1 E.M.f1.length c1)/\w'.cell? ⟨g,2,none⟩=some (.slice A2 E.M.f2.length c2)/\w'.cell? ⟨g,3,none⟩=some (.slice A3 E.M.f3.length c3)/\w'.cell? ⟨g,4,none⟩=some (.slice A4 E.M.f4.length c4)/\w'.cell? ⟨g,5,none⟩=some (.slice A5 E.M.f5.length c5)/\w'.cell? ⟨g,6,none⟩=some (.slice A6 E.M.f6.length c6)/\w'.cell? ⟨g,7,none⟩=some (.slice A7 E.M.f7.length c7)/\w'.cell? ⟨bx,1,none⟩=some (.int .i64 a)) [11] ⟨y0,y1,y2,y3,y4,y5,y6,y7,t1⟩ (fun ag=>?_);refine cZ 0 7 1 8 2 9 ?_;refine tk 3 10 ag ?_;refine pu 4 11 ?_;refine tk 5 12 ag ?_;refine tw 6 10 (some 13) (some 4) (fun K hK=>?_) (fun K hK=>?_)
 case' _=>
  refine ge (iF E.M _ a X.drew (fq (aC E2.o (aX (ay _ _)))) N1.o N2.o qw.o F0.o F9.o) ?_;rintro e w4⟨u1,u2,rfl,r1,r2,hb4⟩;obtain⟨P1,k1,rfl⟩:=Kd.ai r1;obtain⟨P2,k2,rfl⟩:=Kd.ai r2;have iK:=hd r1;have ia:=hd r2;have bP:=hd hb4;clear r1 r2 hb4;refine⟨_,rfl,?_⟩;refine hK.o _ _ (by obtain⟨s0,s1,s2,s3,s4,s5,s6,s7,s8⟩:=ag;exact⟨(bP.o.cell (aR _ _ s0)).trans s0,(bP.o.cell (aR _ _ s1)).trans s1,(bP.o.cell (aR _ _ s2)).trans s2,(bP.o.cell (aR _ _ s3)).trans s3,(bP.o.cell (aR _ _ s4)).trans s4,(bP.o.cell (aR _ _ s5)).trans s5,(bP.o.cell (aR _ _ s6)).trans s6,(bP.o.cell (aR _ _ s7)).trans s7,(bP.o.cell (aR _ _ s8)).trans s8⟩) (fun ag=>?_);clear hK K;refine nm ?_;refine cZ 7 6 8 14 9 15 ?_;refine on 10 (some 4) (fun K hK=>?_);rw[if_pos (by rfl)]
  go_simp
  refine hK.o _ _ (by obtain⟨s0,s1,s2,s3,s4,s5,s6,s7,s8⟩:=ag;exact⟨ak s0,ak s1,ak s2,ak s3,ak s4,ak s5,ak s6,ak s7,ak s8⟩) (fun ag=>?_);clear hK K;refine la 11 ?_;refine pu 12 5 ?_;refine dn ?_;have hb4:Below X.heap.size X w4:=aA (aX (ay _ _)) (by simp) bP.o;have h4:=aY H2.o hb4;have e4:=aC E2.o hb4;have m4:=M2.o.trans (Mv.bF hb4);have z4:=(hb4.block bx (aj Z2.o)).trans Z2.o;have sz:=hb4.size;have Oi:=Fu.o;have Oj:=ni.o;have q1:=dw H2.o (by have:=ki.o;omega) (Kd.eH iK.o (by simp):cO w4 X.heap.size _ _);have q2:=dw H2.o (by have:=ki.o;omega) (Kd.eH ia.o (by simp):cO w4 X.heap.size _ _);have h5:=aI h4 (.cells #[.slice P1 ((Sp.aM E.M a).getD cv).f0.length k1,.slice P2 ((Sp.aM E.M a).getD cv).f1.length k2] 40);have e5:=aC e4 (af (ay _ _) (.cells #[.slice P1 ((Sp.aM E.M a).getD cv).f0.length k1,.slice P2 ((Sp.aM E.M a).getD cv).f1.length k2] 40));have m5:=m4.alloc (.cells #[.slice P1 ((Sp.aM E.M a).getD cv).f0.length k1,.slice P2 ((Sp.aM E.M a).getD cv).f1.length k2] 40);have z5:=bh z4 (.cells #[.slice P1 ((Sp.aM E.M a).getD cv).f0.length k1,.slice P2 ((Sp.aM E.M a).getD cv).f1.length k2] 40);have zt:=dh w4 (.cells #[.slice P1 ((Sp.aM E.M a).getD cv).f0.length k1,.slice P2 ((Sp.aM E.M a).getD cv).f1.length k2] 40);have q1:=Kd.aZ q1 (.cells #[.slice P1 ((Sp.aM E.M a).getD cv).f0.length k1,.slice P2 ((Sp.aM E.M a).getD cv).f1.length k2] 40);have q2:=Kd.aZ q2 (.cells #[.slice P1 ((Sp.aM E.M a).getD cv).f0.length k1,.slice P2 ((Sp.aM E.M a).getD cv).f1.length k2] 40);obtain⟨bt,Fv⟩:=ex w4.heap.size;rw[<-Fv]at zt⊢;have nj:w.heap.size<=bt:=by omega
  have zt:(w4.alloc (.cells #[.slice P1 ((Sp.aM E.M a).getD cv).f0.length k1,.slice P2 ((Sp.aM E.M a).getD cv).f1.length k2] 40)).heap[bt]? =some (.cells #[.slice P1 ((Sp.aM E.M a).getD cv).f0.length k1,.slice P2 ((Sp.aM E.M a).getD cv).f1.length k2] 40 (0,0)):=zt;clear h4 e4 m4 z4 hb4 Fv y0 y1 y2 y3 y4 y5 y6 y7 t1;have SB:=hd (show w.heap.size<=bt from nj);clear nj sz Oi Oj;generalize (w4.alloc (.cells #[.slice P1 ((Sp.aM E.M a).getD cv).f0.length k1,.slice P2 ((Sp.aM E.M a).getD cv).f1.length k2] 40))=V at h5 e5 m5 z5 zt q1 q2⊢;have H5:=hd h5;have E5:=hd e5;have M5:=hd m5;have Z5:=hd z5;have ZT:=hd zt;have Q1:=hd q1;have Q2:=hd q2;clear h5 e5 m5 z5 zt q1 q2
 rotate_left
 case' _=>
  rw[if_pos (by rfl)]
  go_simp
  refine hK.o _ _ (by obtain⟨s0,s1,s2,s3,s4,s5,s6,s7,s8⟩:=ag;exact⟨ak s0,ak s1,ak s2,ak s3,ak s4,ak s5,ak s6,ak s7,ak s8⟩) (fun ag=>?_);clear hK K;refine on 6 (some 13) (fun K hK=>?_);refine ge (iF E.M _ a (X.drew.alloc (.cells #[.slice none 0 0,.slice none 0 0] 40)) (fq (aC E2.o (af (aX (ay _ _)) _))) N1.o N2.o qw.o F0.o F9.o) ?_;rintro e w4⟨u1,u2,rfl,r1,r2,hb4⟩;obtain⟨P1,k1,rfl⟩:=Kd.ai r1;obtain⟨P2,k2,rfl⟩:=Kd.ai r2;have iK:=hd r1;have ia:=hd r2;have bP:=hd hb4;clear r1 r2 hb4;refine⟨_,rfl,?_⟩;refine hK.o _ _ (by obtain⟨s0,s1,s2,s3,s4,s5,s6,s7,s8⟩:=ag;exact⟨(bP.o.cell (aR _ _ s0)).trans s0,(bP.o.cell (aR _ _ s1)).trans s1,(bP.o.cell (aR _ _ s2)).trans s2,(bP.o.cell (aR _ _ s3)).trans s3,(bP.o.cell (aR _ _ s4)).trans s4,(bP.o.cell (aR _ _ s5)).trans s5,(bP.o.cell (aR _ _ s6)).trans s6,(bP.o.cell (aR _ _ s7)).trans s7,(bP.o.cell (aR _ _ s8)).trans s8⟩) (fun ag=>?_);clear hK K;refine nm ?_;refine cZ 7 6 8 14 9 15 ?_;have sA:w4.heap[X.heap.size]? =some (.cells #[.slice none 0 0,.slice none 0 0] 40 (0,0)):=(bP.o.block _ (by simp)).trans (by have:=dh X.drew (.cells #[.slice none 0 0,.slice none 0 0] 40);exact this);have X9:=(aa sA 0).trans rfl;have Ya:=(aa sA 1).trans rfl;have Yb:=ah sA 0;have Yc:=ah sA 1;refine la 11 ?_;refine pu 12 5 ?_;refine dn ?_;have hb4:Below X.heap.size X w4:=aA (af (aX (ay _ _)) _) (by simp) bP.o;have h4:=aY H2.o hb4;have e4:=aC E2.o hb4;have m4:=M2.o.trans (Mv.bF hb4);have z4:=(hb4.block bx (aj Z2.o)).trans Z2.o;have sz:=hb4.size;have Oi:=Fu.o;have Oj:=ni.o;have q1:=dw H2.o (by have:=ki.o;omega) (Kd.eH iK.o (by simp):cO w4 X.heap.size _ _);have q2:=dw H2.o (by have:=ki.o;omega) (Kd.eH ia.o (by simp):cO w4 X.heap.size _ _);obtain⟨bt,Fv⟩:=ex X.heap.size;rw[<-Fv]at sA⊢;have nj:w.heap.size<=bt:=by omega
  have hbg:=(aV HW.o).1;have far: ∀k,k≠bt->((w4.setCell ⟨bt,0,none⟩ (.slice P1 ((Sp.aM E.M a).getD cv).f0.length k1)).setCell ⟨bt,1,none⟩ (.slice P2 ((Sp.aM E.M a).getD cv).f1.length k2)).heap[k]? =w4.heap[k]? :=fun k hk=>(dX _ ⟨bt,1,none⟩ _ k hk).trans (dX _ ⟨bt,0,none⟩ _ k hk)
  have L6:some bt≠vF.ownBlock:=fun e=>by have:=(aV H2.o).2.2 _ e.symm;omega
  have h5:aJ ((w4.setCell ⟨bt,0,none⟩ (.slice P1 ((Sp.aM E.M a).getD cv).f0.length k1)).setCell ⟨bt,1,none⟩ (.slice P2 ((Sp.aM E.M a).getD cv).f1.length k2)) base g _ _ s vT vF:=qX h4 (by simp only[World.setCell];simp) (fun k hk _=>far k hk) ⟨_,_,sA,by decide,by decide⟩ L6;have m5:Mv g w ((w4.setCell ⟨bt,0,none⟩ (.slice P1 ((Sp.aM E.M a).getD cv).f0.length k1)).setCell ⟨bt,1,none⟩ (.slice P2 ((Sp.aM E.M a).getD cv).f1.length k2)) vT vF vT vF:=(m4.iq nj _).iq nj _;have e5:dO ((w4.setCell ⟨bt,0,none⟩ (.slice P1 ((Sp.aM E.M a).getD cv).f0.length k1)).setCell ⟨bt,1,none⟩ (.slice P2 ((Sp.aM E.M a).getD cv).f1.length k2)) base E [.slice A0 E.M.f0.length c0,.slice A1 E.M.f1.length c1,.slice A2 E.M.f2.length c2,.slice A3 E.M.f3.length c3,.slice A4 E.M.f4.length c4,.slice A5 E.M.f5.length c5,.slice A6 E.M.f6.length c6,.slice A7 E.M.f7.length c7] vL v1 v2:=nX HW.o m5 X7.o;have z5:=(far bx (by omega)).trans z4;have zt:=bC (bC sA 0 (.slice P1 ((Sp.aM E.M a).getD cv).f0.length k1)) 1 (.slice P2 ((Sp.aM E.M a).getD cv).f1.length k2);have q1:=jH q1 far sA (by decide);have q2:=jH q2 far sA (by decide);clear sA X9 Ya Yb Yc far hbg L6;have zt:((w4.setCell ⟨bt,0,none⟩ (.slice P1 ((Sp.aM E.M a).getD cv).f0.length k1)).setCell ⟨bt,1,none⟩ (.slice P2 ((Sp.aM E.M a).getD cv).f1.length k2)).heap[bt]? =some (.cells #[.slice P1 ((Sp.aM E.M a).getD cv).f0.length k1,.slice P2 ((Sp.aM E.M a).getD cv).f1.length k2] 40 (0,0)):=zt;clear h4 e4 m4 z4 hb4 Fv y0 y1 y2 y3 y4 y5 y6 y7 t1;have SB:=hd (show w.heap.size<=bt from nj);clear nj sz Oi Oj;generalize ((w4.setCell ⟨bt,0,none⟩ (.slice P1 ((Sp.aM E.M a).getD cv).f0.length k1)).setCell ⟨bt,1,none⟩ (.slice P2 ((Sp.aM E.M a).getD cv).f1.length k2))=V at h5 e5 m5 z5 zt q1 q2⊢;have H5:=hd h5;have E5:=hd e5;have M5:=hd m5;have Z5:=hd z5;have ZT:=hd zt;have Q1:=hd q1;have Q2:=hd q2;clear h5 e5 m5 z5 zt q1 q2
 all_goals
  have Tn:=(aa ZT.o 0).trans rfl
  go_wp2_with fail
  refine(gm V base g _ _ s vT vF _ H5.o HI.o ((Sp.aM E.M a).getD cv).f0 (fO H5.o Q1.o) (by have:=T8.o;omega)).mono ?_;rintro e W6⟨rfl,ri,rj,m6,h6⟩;have bne:=(show bt≠g/\some bt≠vT.ownBlock/\some bt≠vF.ownBlock from by have sb:=SB.o;exact⟨by have:=(aV HW.o).1;omega,fun e=>by have:=(aV HW.o).2.1 _ e.symm;omega,fun e=>by have:=(aV HW.o).2.2 _ e.symm;omega⟩);have RX:=(show bx≠g/\some bx≠vT.ownBlock/\some bx≠vF.ownBlock from by have sb:=ni.o;exact⟨by have:=(aV HW.o).1;omega,fun e=>by have:=(aV HW.o).2.1 _ e.symm;omega,fun e=>by have:=(aV HW.o).2.2 _ e.symm;omega⟩);have Mb:=(m6.block bt (aj ZT.o) bne.1 bne.2.1 bne.2.2).trans ZT.o;have z6:=(m6.block bx (aj Z5.o) RX.1 RX.2.1 RX.2.2).trans Z5.o;have Q6:=hd (lu Q2.o m6 (fun _ hk=>hk));have E6:=hd (nX H5.o m6 E5.o);have Jy:=(aa z6 0).trans rfl;have Yd:=(aa Mb 1).trans rfl;have M6:=hd m6;have H6:=hd h6;have ZT6:=hd Mb;clear m6 h6 Mb z6 bne RX Tn
  go_wp2_with fail
  refine(dP W6 base g _ _ _ ri rj _ H6.o ((Sp.aM E.M a).getD cv).f1 (fO H6.o Q6.o) (by have:=HL.o;have:=R8.o;have:=p9 s ((Sp.aM E.M a).getD cv).f0;omega)).mono ?_;rintro e W7⟨rfl,KY,KZ,m7,h7⟩;have M7:=hd m7;have H7:=hd h7;clear m7 h7
  go_wp2_with fail
  go_end0
  exact⟨rfl,KY,KZ,(M5.o.trans M6.o).trans M7.o,H7.o⟩
theorem Ol(w:World)(base g:Nat)(E:Sp.Env)(cs:List Value)(vL v1 v2:Value)(s:Sp.St)(vT vF:Value)(h:aJ w base g (di vL v1 v2) (cs++ [vL,v1,v2]) s vT vF)(hE:dO w base E cs vL v1 v2)(hI:Sp.cq s)(hl:s.T.length+8<=1000000)(a b n:Int)(A:Option Addr)(l c:Nat)(hs:fh E.M.f0)(n1:E.M.f1.length<=1000000)(n2:E.M.f2.length<=1000000)(f0: -2147483648<=a)(f9:a<=2147483647)(t8:((Sp.aM E.M a).getD cv).f0.length<=8)(r8:((Sp.aM E.M a).getD cv).f1.length<=8):Calls prog 95 #[.pointer (some ⟨g,0,none⟩),bX 18 a b n (.slice A l c)] w (bN g base (di vL v1 v2) (cs++ [vL,v1,v2]) w vT vF (.tuple #[]) (((s.pop ((Sp.aM E.M a).getD cv).f0).err (decide (((Sp.aM E.M a).getD cv).f1≠E.S.f1))).die)):=by
 obtain⟨A0,c0,A1,c1,A2,c2,A3,c3,A4,c4,A5,c5,A6,c6,A7,c7,rfl,-⟩:=aD (fq hE);have X7:=hd hE;have qw:=hd hs;have N1:=hd n1;have N2:=hd n2;have F0:=hd f0;have F9:=hd f9;have T8:=hd t8;have R8:=hd r8;clear hs n1 n2 f0 f9 t8 r8;have js:=dc hE;have h2:=aI h (av 18 a b n (.slice A l c));have e2:=aC hE (af (ay _ _) (av 18 a b n (.slice A l c)));have m2:=(Mv.refl g w vT vF).alloc (av 18 a b n (.slice A l c));have z2:(w.alloc (av 18 a b n (.slice A l c))).heap[w.heap.size]? =some (.cells #[.int .i64 18,.int .i64 a,.int .i64 b,.int .u64 n,.slice A l c] 25 (0,0)):=dh w _;have oc:(w.alloc (av 18 a b n (.slice A l c))).heap.size=w.heap.size+1:=by simp
 obtain⟨bx,gG⟩:=ex w.heap.size
 go_enter func95,ntmps95
 go_wp2_with fail
 rw[<-gG]at z2 oc⊢;generalize w.alloc (av 18 a b n (.slice A l c))=X at h2 e2 m2 z2 oc⊢;have H2:=hd h2;have E2:=hd e2;have M2:=hd m2;have Z2:=hd z2;have HW:=hd h;have ni:=hd gG;have Fu:=hd oc;have ki:=hd js;have HI:=hd hI;have HL:=hd hl;clear h2 e2 m2 z2 h hE gG oc js hI hl;obtain⟨y0,y1,y2,y3,y4,y5,y6,y7,-⟩:=gV H2.o;have t1:=(aa Z2.o 1).trans rfl;refine st 13 (fun w'=>w'.cell? ⟨g,0,none⟩=some (.slice A0 E.M.f0.length c0)/\w'.cell? ⟨g,1,none⟩=some (.slice A1 E.M.f1.length c1)/\w'.cell? ⟨g,2,none⟩=some (.slice A2 E.M.f2.length c2)/\w'.cell? ⟨g,3,none⟩=some (.slice A3 E.M.f3.length c3)/\w'.cell? ⟨g,4,none⟩=some (.slice A4 E.M.f4.length c4)/\w'.cell? ⟨g,5,none⟩=some (.slice A5 E.M.f5.length c5)/\w'.cell? ⟨g,6,none⟩=some (.slice A6 E.M.f6.length c6)/\w'.cell? ⟨g,7,none⟩=some (.slice A7 E.M.f7.length c7)/\w'.cell? ⟨bx,1,none⟩=some (.int .i64 a)) [11] ⟨y0,y1,y2,y3,y4,y5,y6,y7,t1⟩ (fun ag=>?_);refine cZ 0 7 1 8 2 9 ?_;refine tk 3 10 ag ?_;refine pu 4 11 ?_;refine tk 5 12 ag ?_;refine tw 6 10 (some 13) (some 4) (fun K hK=>?_) (fun K hK=>?_)
 case' _=>
  refine ge (iF E.M _ a X.drew (fq (aC E2.o (aX (ay _ _)))) N1.o N2.o qw.o F0.o F9.o) ?_;rintro e w4⟨u1,u2,rfl,r1,r2,hb4⟩;obtain⟨P1,k1,rfl⟩:=Kd.ai r1;obtain⟨P2,k2,rfl⟩:=Kd.ai r2;have iK:=hd r1;have ia:=hd r2;have bP:=hd hb4;clear r1 r2 hb4;refine⟨_,rfl,?_⟩;refine hK.o _ _ (by obtain⟨s0,s1,s2,s3,s4,s5,s6,s7,s8⟩:=ag;exact⟨(bP.o.cell (aR _ _ s0)).trans s0,(bP.o.cell (aR _ _ s1)).trans s1,(bP.o.cell (aR _ _ s2)).trans s2,(bP.o.cell (aR _ _ s3)).trans s3,(bP.o.cell (aR _ _ s4)).trans s4,(bP.o.cell (aR _ _ s5)).trans s5,(bP.o.cell (aR _ _ s6)).trans s6,(bP.o.cell (aR _ _ s7)).trans s7,(bP.o.cell (aR _ _ s8)).trans s8⟩) (fun ag=>?_);clear hK K;refine nm ?_;refine cZ 7 6 8 14 9 15 ?_;refine on 10 (some 4) (fun K hK=>?_);rw[if_pos (by rfl)]
  go_simp
  refine hK.o _ _ (by obtain⟨s0,s1,s2,s3,s4,s5,s6,s7,s8⟩:=ag;exact⟨ak s0,ak s1,ak s2,ak s3,ak s4,ak s5,ak s6,ak s7,ak s8⟩) (fun ag=>?_);clear hK K;refine la 11 ?_;refine pu 12 5 ?_;refine dn ?_;have hb4:Below X.heap.size X w4:=aA (aX (ay _ _)) (by simp) bP.o;have h4:=aY H2.o hb4;have e4:=aC E2.o hb4;have m4:=M2.o.trans (Mv.bF hb4);have z4:=(hb4.block bx (aj Z2.o)).trans Z2.o;have sz:=hb4.size;have Oi:=Fu.o;have Oj:=ni.o;have q1:=dw H2.o (by have:=ki.o;omega) (Kd.eH iK.o (by simp):cO w4 X.heap.size _ _);have q2:=dw H2.o (by have:=ki.o;omega) (Kd.eH ia.o (by simp):cO w4 X.heap.size _ _);have h5:=aI h4 (.cells #[.slice P1 ((Sp.aM E.M a).getD cv).f0.length k1,.slice P2 ((Sp.aM E.M a).getD cv).f1.length k2] 40);have e5:=aC e4 (af (ay _ _) (.cells #[.slice P1 ((Sp.aM E.M a).getD cv).f0.length k1,.slice P2 ((Sp.aM E.M a).getD cv).f1.length k2] 40));have m5:=m4.alloc (.cells #[.slice P1 ((Sp.aM E.M a).getD cv).f0.length k1,.slice P2 ((Sp.aM E.M a).getD cv).f1.length k2] 40);have z5:=bh z4 (.cells #[.slice P1 ((Sp.aM E.M a).getD cv).f0.length k1,.slice P2 ((Sp.aM E.M a).getD cv).f1.length k2] 40);have zt:=dh w4 (.cells #[.slice P1 ((Sp.aM E.M a).getD cv).f0.length k1,.slice P2 ((Sp.aM E.M a).getD cv).f1.length k2] 40);have q1:=Kd.aZ q1 (.cells #[.slice P1 ((Sp.aM E.M a).getD cv).f0.length k1,.slice P2 ((Sp.aM E.M a).getD cv).f1.length k2] 40);have q2:=Kd.aZ q2 (.cells #[.slice P1 ((Sp.aM E.M a).getD cv).f0.length k1,.slice P2 ((Sp.aM E.M a).getD cv).f1.length k2] 40);obtain⟨bt,Fv⟩:=ex w4.heap.size;rw[<-Fv]at zt⊢;have nj:w.heap.size<=bt:=by omega
  have zt:(w4.alloc (.cells #[.slice P1 ((Sp.aM E.M a).getD cv).f0.length k1,.slice P2 ((Sp.aM E.M a).getD cv).f1.length k2] 40)).heap[bt]? =some (.cells #[.slice P1 ((Sp.aM E.M a).getD cv).f0.length k1,.slice P2 ((Sp.aM E.M a).getD cv).f1.length k2] 40 (0,0)):=zt;clear h4 e4 m4 z4 hb4 Fv y0 y1 y2 y3 y4 y5 y6 y7 t1;have SB:=hd (show w.heap.size<=bt from nj);clear nj sz Oi Oj;generalize (w4.alloc (.cells #[.slice P1 ((Sp.aM E.M a).getD cv).f0.length k1,.slice P2 ((Sp.aM E.M a).getD cv).f1.length k2] 40))=V at h5 e5 m5 z5 zt q1 q2⊢;have H5:=hd h5;have E5:=hd e5;have M5:=hd m5;have Z5:=hd z5;have ZT:=hd zt;have Q1:=hd q1;have Q2:=hd q2;clear h5 e5 m5 z5 zt q1 q2
 rotate_left
 case' _=>
  rw[if_pos (by rfl)]
  go_simp
  refine hK.o _ _ (by obtain⟨s0,s1,s2,s3,s4,s5,s6,s7,s8⟩:=ag;exact⟨ak s0,ak s1,ak s2,ak s3,ak s4,ak s5,ak s6,ak s7,ak s8⟩) (fun ag=>?_);clear hK K;refine on 6 (some 13) (fun K hK=>?_);refine ge (iF E.M _ a (X.drew.alloc (.cells #[.slice none 0 0,.slice none 0 0] 40)) (fq (aC E2.o (af (aX (ay _ _)) _))) N1.o N2.o qw.o F0.o F9.o) ?_;rintro e w4⟨u1,u2,rfl,r1,r2,hb4⟩;obtain⟨P1,k1,rfl⟩:=Kd.ai r1;obtain⟨P2,k2,rfl⟩:=Kd.ai r2;have iK:=hd r1;have ia:=hd r2;have bP:=hd hb4;clear r1 r2 hb4;refine⟨_,rfl,?_⟩;refine hK.o _ _ (by obtain⟨s0,s1,s2,s3,s4,s5,s6,s7,s8⟩:=ag;exact⟨(bP.o.cell (aR _ _ s0)).trans s0,(bP.o.cell (aR _ _ s1)).trans s1,(bP.o.cell (aR _ _ s2)).trans s2,(bP.o.cell (aR _ _ s3)).trans s3,(bP.o.cell (aR _ _ s4)).trans s4,(bP.o.cell (aR _ _ s5)).trans s5,(bP.o.cell (aR _ _ s6)).trans s6,(bP.o.cell (aR _ _ s7)).trans s7,(bP.o.cell (aR _ _ s8)).trans s8⟩) (fun ag=>?_);clear hK K;refine nm ?_;refine cZ 7 6 8 14 9 15 ?_;have sA:w4.heap[X.heap.size]? =some (.cells #[.slice none 0 0,.slice none 0 0] 40 (0,0)):=(bP.o.block _ (by simp)).trans (by have:=dh X.drew (.cells #[.slice none 0 0,.slice none 0 0] 40);exact this);have X9:=(aa sA 0).trans rfl;have Ya:=(aa sA 1).trans rfl;have Yb:=ah sA 0;have Yc:=ah sA 1;refine la 11 ?_;refine pu 12 5 ?_;refine dn ?_;have hb4:Below X.heap.size X w4:=aA (af (aX (ay _ _)) _) (by simp) bP.o;have h4:=aY H2.o hb4;have e4:=aC E2.o hb4;have m4:=M2.o.trans (Mv.bF hb4);have z4:=(hb4.block bx (aj Z2.o)).trans Z2.o;have sz:=hb4.size;have Oi:=Fu.o;have Oj:=ni.o;have q1:=dw H2.o (by have:=ki.o;omega) (Kd.eH iK.o (by simp):cO w4 X.heap.size _ _);have q2:=dw H2.o (by have:=ki.o;omega) (Kd.eH ia.o (by simp):cO w4 X.heap.size _ _);obtain⟨bt,Fv⟩:=ex X.heap.size;rw[<-Fv]at sA⊢;have nj:w.heap.size<=bt:=by omega
  have hbg:=(aV HW.o).1;have far: ∀k,k≠bt->((w4.setCell ⟨bt,0,none⟩ (.slice P1 ((Sp.aM E.M a).getD cv).f0.length k1)).setCell ⟨bt,1,none⟩ (.slice P2 ((Sp.aM E.M a).getD cv).f1.length k2)).heap[k]? =w4.heap[k]? :=fun k hk=>(dX _ ⟨bt,1,none⟩ _ k hk).trans (dX _ ⟨bt,0,none⟩ _ k hk)
  have L6:some bt≠vF.ownBlock:=fun e=>by have:=(aV H2.o).2.2 _ e.symm;omega
  have h5:aJ ((w4.setCell ⟨bt,0,none⟩ (.slice P1 ((Sp.aM E.M a).getD cv).f0.length k1)).setCell ⟨bt,1,none⟩ (.slice P2 ((Sp.aM E.M a).getD cv).f1.length k2)) base g _ _ s vT vF:=qX h4 (by simp only[World.setCell];simp) (fun k hk _=>far k hk) ⟨_,_,sA,by decide,by decide⟩ L6;have m5:Mv g w ((w4.setCell ⟨bt,0,none⟩ (.slice P1 ((Sp.aM E.M a).getD cv).f0.length k1)).setCell ⟨bt,1,none⟩ (.slice P2 ((Sp.aM E.M a).getD cv).f1.length k2)) vT vF vT vF:=(m4.iq nj _).iq nj _;have e5:dO ((w4.setCell ⟨bt,0,none⟩ (.slice P1 ((Sp.aM E.M a).getD cv).f0.length k1)).setCell ⟨bt,1,none⟩ (.slice P2 ((Sp.aM E.M a).getD cv).f1.length k2)) base E [.slice A0 E.M.f0.length c0,.slice A1 E.M.f1.length c1,.slice A2 E.M.f2.length c2,.slice A3 E.M.f3.length c3,.slice A4 E.M.f4.length c4,.slice A5 E.M.f5.length c5,.slice A6 E.M.f6.length c6,.slice A7 E.M.f7.length c7] vL v1 v2:=nX HW.o m5 X7.o;have z5:=(far bx (by omega)).trans z4;have zt:=bC (bC sA 0 (.slice P1 ((Sp.aM E.M a).getD cv).f0.length k1)) 1 (.slice P2 ((Sp.aM E.M a).getD cv).f1.length k2);have q1:=jH q1 far sA (by decide);have q2:=jH q2 far sA (by decide);clear sA X9 Ya Yb Yc far hbg L6;have zt:((w4.setCell ⟨bt,0,none⟩ (.slice P1 ((Sp.aM E.M a).getD cv).f0.length k1)).setCell ⟨bt,1,none⟩ (.slice P2 ((Sp.aM E.M a).getD cv).f1.length k2)).heap[bt]? =some (.cells #[.slice P1 ((Sp.aM E.M a).getD cv).f0.length k1,.slice P2 ((Sp.aM E.M a).getD cv).f1.length k2] 40 (0,0)):=zt;clear h4 e4 m4 z4 hb4 Fv y0 y1 y2 y3 y4 y5 y6 y7 t1;have SB:=hd (show w.heap.size<=bt from nj);clear nj sz Oi Oj;generalize ((w4.setCell ⟨bt,0,none⟩ (.slice P1 ((Sp.aM E.M a).getD cv).f0.length k1)).setCell ⟨bt,1,none⟩ (.slice P2 ((Sp.aM E.M a).getD cv).f1.length k2))=V at h5 e5 m5 z5 zt q1 q2⊢;have H5:=hd h5;have E5:=hd e5;have M5:=hd m5;have Z5:=hd z5;have ZT:=hd zt;have Q1:=hd q1;have Q2:=hd q2;clear h5 e5 m5 z5 zt q1 q2
 all_goals
  have Tn:=(aa ZT.o 0).trans rfl
  go_wp2_with fail
  refine(gm V base g _ _ s vT vF _ H5.o HI.o ((Sp.aM E.M a).getD cv).f0 (fO H5.o Q1.o) (by have:=T8.o;omega)).mono ?_;rintro e W6⟨rfl,ri,rj,m6,h6⟩;have bne:=(show bt≠g/\some bt≠vT.ownBlock/\some bt≠vF.ownBlock from by have sb:=SB.o;exact⟨by have:=(aV HW.o).1;omega,fun e=>by have:=(aV HW.o).2.1 _ e.symm;omega,fun e=>by have:=(aV HW.o).2.2 _ e.symm;omega⟩);have RX:=(show bx≠g/\some bx≠vT.ownBlock/\some bx≠vF.ownBlock from by have sb:=ni.o;exact⟨by have:=(aV HW.o).1;omega,fun e=>by have:=(aV HW.o).2.1 _ e.symm;omega,fun e=>by have:=(aV HW.o).2.2 _ e.symm;omega⟩);have Mb:=(m6.block bt (aj ZT.o) bne.1 bne.2.1 bne.2.2).trans ZT.o;have z6:=(m6.block bx (aj Z5.o) RX.1 RX.2.1 RX.2.2).trans Z5.o;have Q6:=hd (lu Q2.o m6 (fun _ hk=>hk));have E6:=hd (nX H5.o m6 E5.o);have Jy:=(aa z6 0).trans rfl;have Yd:=(aa Mb 1).trans rfl;have M6:=hd m6;have H6:=hd h6;have ZT6:=hd Mb;clear m6 h6 Mb z6 bne RX Tn
  go_wp2_with fail
  have hr3:=E6.o.choose_spec.2.2.2.2.2;obtain⟨S2,kS,rfl⟩:=Kd.ai hr3;have y10:=(aa H6.o.1 10).trans rfl;have c13:=(aa H6.o.1 13).trans (dy H6.o.2.1 _ _ _);have f13:=ah H6.o.1 13;have EZ:=hd (Kd.bA Q6.o).2.2;have KE:=hd (Kd.bA hr3).2.2;clear hr3;obtain⟨bb,ek⟩:=ex ((s.pop ((Sp.aM E.M a).getD cv).f0).bad);rw[<-ek]at c13;have cE:=hd ek;clear ek;have Qf:=hd (Sp.iA HI.o ((Sp.aM E.M a).getD cv).f0);cases bb with
  |true=>
   refine st 19 (fun w'=>w'.cell? ⟨g,13,none⟩=some (.bool true)) [18] c13 (fun ag=>?_);refine cZ 0 27 1 28 2 29 ?_;refine pu 3 30 ?_;refine tk 4 31 ag ?_;refine cZ 5 32 6 33 7 34 ?_;refine cZ 8 35 9 36 10 37 ?_;refine cZ 11 38 12 39 13 40 ?_;refine cZ 14 41 15 42 16 43 ?_;refine pu 17 44 ?_;refine la 18 ?_;refine dn ?_
   go_wp2_with fail
   refine(kZ _ base g _ _ _ ri rj (bT (eC H6.o true) 1) (Sp.ox Qf.o true)).mono ?_;rintro e W7⟨rfl,KY,KZ,m7,h7⟩;have M7:=hd m7;have H7:=hd h7;clear m7 h7
   go_wp2_with fail
   go_end0
   have e:(s.pop ((Sp.aM E.M a).getD cv).f0).err (decide (((Sp.aM E.M a).getD cv).f1≠E.S.f1))=⟨(s.pop ((Sp.aM E.M a).getD cv).f0).T,(s.pop ((Sp.aM E.M a).getD cv).f0).F,true⟩:=by unfold Sp.St.err;rw[<-cE.o];simp
   rw[e];refine⟨rfl,KY,KZ,(M5.o.trans M6.o).trans (Mv.trans ?hmv M7.o),H7.o⟩
   case hmv=>first|exact((Mv.refl g W6 ri rj).set 13 _).drewN _|exact(((Mv.refl g W6 ri rj).drewN _).set 13 _)|exact(((Mv.refl g W6 ri rj).drewN _).set 13 _).drewN _
  |false=>
   refine st 19 (fun w'=>w'.cell? ⟨g,13,none⟩=some (.bool false)/\w'.cell? ⟨bt,1,none⟩=some (.slice P2 ((Sp.aM E.M a).getD cv).f1.length k2)/\w'.cell? ⟨g,10,none⟩=some (.slice S2 E.S.f1.length kS)) [18] ⟨c13,Yd,y10⟩ (fun ag=>?_);refine cZ 0 27 1 28 2 29 ?_;refine pu 3 30 ?_;refine tk 4 31 ag ?_;refine pu2 5 32 6 33 ?_;refine tk 7 34 ag ?_;refine cZ 8 35 9 36 10 37 ?_;refine pu 11 38 ?_;refine tk 12 39 ag ?_;refine on 13 (some 40) (fun K hK=>?_);refine ge (iE P2 S2 k2 kS _ _ _ (Kd.eL EZ.o) (Kd.eL KE.o)) ?_;rintro e w'⟨rfl,nq,rfl⟩;refine⟨_,rfl,?_⟩;refine hK.o _ _ ag (fun ag=>?_);clear hK K;refine nm ?_;refine cZ 14 41 15 42 16 43 ?_;refine pu 17 44 ?_;refine la 18 ?_;refine dn ?_
   go_wp2_with fail
   refine(kZ _ base g _ _ _ ri rj (bT (eC H6.o (!decide (((Sp.aM E.M a).getD cv).f1=E.S.f1))) (1+nq)) (Sp.ox Qf.o (!decide (((Sp.aM E.M a).getD cv).f1=E.S.f1)))).mono ?_;rintro e W7⟨rfl,KY,KZ,m7,h7⟩;have M7:=hd m7;have H7:=hd h7;clear m7 h7
   go_wp2_with fail
   go_end0
   have e:(s.pop ((Sp.aM E.M a).getD cv).f0).err (decide (((Sp.aM E.M a).getD cv).f1≠E.S.f1))=⟨(s.pop ((Sp.aM E.M a).getD cv).f0).T,(s.pop ((Sp.aM E.M a).getD cv).f0).F,(!decide (((Sp.aM E.M a).getD cv).f1=E.S.f1))⟩:=by unfold Sp.St.err;rw[<-cE.o];simp
   rw[e];refine⟨rfl,KY,KZ,(M5.o.trans M6.o).trans (Mv.trans ?hmv M7.o),H7.o⟩
   case hmv=>first|exact((Mv.refl g W6 ri rj).set 13 _).drewN _|exact(((Mv.refl g W6 ri rj).drewN _).set 13 _)|exact(((Mv.refl g W6 ri rj).drewN _).set 13 _).drewN _
theorem Mv.UQ{g:Nat}{a b c:World}{t f t1 f1 f2:Value}(h:Mv g a b t f t1 f1)(hg:b.grownBy c f1.ownBlock)(hat:f2.ownBlock=f1.ownBlock\/ ∃k,f2.ownBlock=some k/\b.heap.size<=k):Mv g a c t f t1 f2:=by
 refine h.trans ⟨hg.os,hg.tape,hg.output,hg.size,fun k hk _ _ hf=>hg.block k hk hf,fun k hk=> .inl hk,fun k hk=>?_⟩;rcases hat with e|⟨b,e,hb⟩
 ·exact .inl (by rw[<-e];exact hk)
 ·rw[e]at hk
  injection hk with hk;exact .inr (by omega)
theorem Ba{w1:World}{base g:Nat}{D:Nat->Prop}{fx:List Value}{x0 vT v1:Value}{T:List Int}{F:List xB}{bad:Bool}(hg:w1.heap[g]? =some (.cells (ee fx vT x0 bad) 111 (0,0)))(iR:fx.length=11)(hb:base<=g)(sR: ¬D g)
 (hT:bl w1 base (fun k=>(k≠g/\ ¬D k)/\some k≠v1.ownBlock) vT T) (hF:iG w1 base (fun k=>k≠g/\some k≠vT.ownBlock) v1 F) (o9: ∀k,v1.ownBlock=some k-> ¬D k) (hD: ∀k,D k->k<w1.heap.size):
 aJ (w1.setCell ⟨g,12,none⟩ v1) base g D fx ⟨T,F,bad⟩ vT v1:=by
 refine⟨?_,iR,hb,sR,Kd.bQ (Kd.dr hT (fun k hk=>hk.1.1) _) (fun k hk=>⟨hk.1.1,hk.2,hk.1.2⟩),Kd.dr hF (fun k hk=>hk.1) _,o9,fun k hk=>?_⟩
 ·have:=bC hg 12 v1
  rwa[BF iR]at this
 ·have:=hD k hk
  simp only[World.setCell];simpa using this
theorem zC(w:World)(base g:Nat)(E:Sp.Env)(cs:List Value)(vL v1 v2:Value)(s:Sp.St)(vT vF:Value)(h:aJ w base g (di vL v1 v2) (cs++ [vL,v1,v2]) s vT vF)(hE:dO w base E cs vL v1 v2)(hI:Sp.cq s)(hl:s.T.length+8<=1000000)(a b n:Int)(A:Option Addr)(l c:Nat)(op:Int)(hs:fh E.M.f0)(t8:((Sp.aQ E.M a).getD cv).f0.length<=8)(r8:((Sp.aQ E.M a).getD cv).f1.length<=8):Calls prog 91 #[.pointer (some ⟨g,0,none⟩),bX op a b n (.slice A l c)] w (bN g base (di vL v1 v2) (cs++ [vL,v1,v2]) w vT vF (.tuple #[]) (s.open_ op ((Sp.aQ E.M a).getD cv))):=by
 obtain⟨A0,c0,A1,c1,A2,c2,A3,c3,A4,c4,A5,c5,A6,c6,A7,c7,rfl,-⟩:=aD (fq hE);have X7:=hd hE;have qw:=hd hs;have T8:=hd t8;have R8:=hd r8;clear hs t8 r8;have js:=dc hE;have h2:=aI h (av op a b n (.slice A l c));have e2:=aC hE (af (ay _ _) (av op a b n (.slice A l c)));have m2:=(Mv.refl g w vT vF).alloc (av op a b n (.slice A l c));have z2:(w.alloc (av op a b n (.slice A l c))).heap[w.heap.size]? =some (.cells #[.int .i64 op,.int .i64 a,.int .i64 b,.int .u64 n,.slice A l c] 25 (0,0)):=dh w _;have oc:(w.alloc (av op a b n (.slice A l c))).heap.size=w.heap.size+1:=by simp
 obtain⟨bx,gG⟩:=ex w.heap.size;by_cases h4:op=4
 case' _=>have g4:(op==4)=true:=by simpa using h4
 rotate_left
 case' _=>have g4:(op==4)=false:=by simpa using h4
 all_goals
  have H4:=hd h4;clear h4
  go_enter func91,ntmps91
  go_wp2_with fail
  rw[<-gG]at z2 oc⊢;generalize w.alloc (av op a b n (.slice A l c))=X at h2 e2 m2 z2 oc⊢;have H2:=hd h2;have E2:=hd e2;have M2:=hd m2;have Z2:=hd z2;have HW:=hd h;have ni:=hd gG;have Fu:=hd oc;have ki:=hd js;have HI:=hd hI;have HL:=hd hl;clear h2 e2 m2 z2 h hE gG oc js hI hl
 case' _=>
  have Qg:=hd (show bx≠g/\some bx≠vT.ownBlock/\some bx≠vF.ownBlock from by have sb:=ni.o;exact⟨by have:=(aV HW.o).1;omega,fun e=>by have:=(aV HW.o).2.1 _ e.symm;omega,fun e=>by have:=(aV HW.o).2.2 _ e.symm;omega⟩);obtain⟨s1,Fw,Jz,oK,H2,M2,Qg,HI,HL⟩: ∃s1 Fw Jz,Hid (s1=(if op=4 then s.pop [127]else s))/\Hid (aJ X base g (di vL v1 v2) ([.slice A0 E.M.f0.length c0,.slice A1 E.M.f1.length c1,.slice A2 E.M.f2.length c2,.slice A3 E.M.f3.length c3,.slice A4 E.M.f4.length c4,.slice A5 E.M.f5.length c5,.slice A6 E.M.f6.length c6,.slice A7 E.M.f7.length c7]++ [vL,v1,v2]) s1 Fw Jz)/\Hid (Mv g w X vT vF Fw Jz)/\Hid (bx≠g/\some bx≠Fw.ownBlock/\some bx≠Jz.ownBlock)/\Hid (Sp.cq s1)/\Hid (s1.T.length+8<=1000000):=⟨s,vT,vF,hd (by rw[if_neg H4.o]),H2,M2,Qg,HI,HL⟩;clear g4
 rotate_left
 case' _=>
  refine(cH [127] H2.o HI.o Fu.o.symm rfl (by simp)).mono ?_;rintro e W1⟨rfl,Fw,Jz,m1,h1⟩;have bne:bx≠g/\some bx≠vT.ownBlock/\some bx≠vF.ownBlock:=by have sb:=ni.o;exact⟨by have:=(aV HW.o).1;omega,fun e=>by have:=(aV HW.o).2.1 _ e.symm;omega,fun e=>by have:=(aV HW.o).2.2 _ e.symm;omega⟩
  have z1:=(m1.block bx (aj Z2.o) bne.1 bne.2.1 bne.2.2).trans Z2.o;have Qg:=hd (show bx≠g/\some bx≠Fw.ownBlock/\some bx≠Jz.ownBlock from⟨bne.1,fun e=>(m1.BG bx e.symm).elim (fun h=>bne.2.1 h.symm) (fun h=>by have:=aj Z2.o;omega),fun e=>(m1.Ax bx e.symm).elim (fun h=>bne.2.2 h.symm) (fun h=>by have:=aj Z2.o;omega)⟩);have e1:=nX H2.o m1 E2.o;obtain⟨s1,hs1⟩:=ex (s.pop [127]);rw[<-hs1]at h1;have HI:=hd (show Sp.cq s1 from hs1▸Sp.iA HI.o _);have HL:=hd (show s1.T.length+8<=1000000 from hs1▸(by have:=p9 s [127];have:=HL.o;omega));have m2:=M2.o.trans m1;have oc:w.heap.size+1<=W1.heap.size:=by have:=m1.size;have:=Fu.o;have:=ni.o;omega
  clear H2 E2 M2 Z2 Fu bne;have H2:=hd h1;have E2:=hd e1;have M2:=hd m2;have Z2:=hd z1;have Fu:=hd oc;have oK:=hd (show s1=(if op=4 then s.pop [127]else s) by rw[if_pos H4.o];exact hs1);have tx:=(aa z1 1).trans rfl;clear h1 e1 m1 m2 z1 oc hs1 X g4;obtain⟨X,rfl⟩:=ex W1
  go_wp2_with fail
  clear tx
 all_goals
  obtain⟨y0,y1,y2,y3,y4,y5,y6,y7,-⟩:=gV H2.o;have t1:=(aa Z2.o 1).trans rfl;refine st 13 (fun w'=>w'.cell? ⟨g,0,none⟩=some (.slice A0 E.M.f0.length c0)/\w'.cell? ⟨g,1,none⟩=some (.slice A1 E.M.f1.length c1)/\w'.cell? ⟨g,2,none⟩=some (.slice A2 E.M.f2.length c2)/\w'.cell? ⟨g,3,none⟩=some (.slice A3 E.M.f3.length c3)/\w'.cell? ⟨g,4,none⟩=some (.slice A4 E.M.f4.length c4)/\w'.cell? ⟨g,5,none⟩=some (.slice A5 E.M.f5.length c5)/\w'.cell? ⟨g,6,none⟩=some (.slice A6 E.M.f6.length c6)/\w'.cell? ⟨g,7,none⟩=some (.slice A7 E.M.f7.length c7)/\w'.cell? ⟨bx,1,none⟩=some (.int .i64 a)) [11] ⟨y0,y1,y2,y3,y4,y5,y6,y7,t1⟩ (fun ag=>?_);refine cZ 0 13 1 14 2 15 ?_;refine tk 3 16 ag ?_;refine pu 4 17 ?_;refine tk 5 18 ag ?_;refine tw 6 10 (some 19) (some 4) (fun K hK=>?_) (fun K hK=>?_)
  case' _=>
   refine ge (oV E.M _ a X.drew (fq (aC E2.o (aX (ay _ _)))) qw.o) ?_;rintro e w4⟨u1,u2,rfl,r1,r2,hb4⟩;obtain⟨P1,k1,rfl⟩:=Kd.ai r1;obtain⟨P2,k2,rfl⟩:=Kd.ai r2;have iK:=hd r1;have ia:=hd r2;have bP:=hd hb4;clear r1 r2 hb4;refine⟨_,rfl,?_⟩;refine hK.o _ _ (by obtain⟨s0,s1,s2,s3,s4,s5,s6,s7,s8⟩:=ag;exact⟨(bP.o.cell (aR _ _ s0)).trans s0,(bP.o.cell (aR _ _ s1)).trans s1,(bP.o.cell (aR _ _ s2)).trans s2,(bP.o.cell (aR _ _ s3)).trans s3,(bP.o.cell (aR _ _ s4)).trans s4,(bP.o.cell (aR _ _ s5)).trans s5,(bP.o.cell (aR _ _ s6)).trans s6,(bP.o.cell (aR _ _ s7)).trans s7,(bP.o.cell (aR _ _ s8)).trans s8⟩) (fun ag=>?_);clear hK K;refine nm ?_;refine cZ 7 12 8 20 9 21 ?_;refine on 10 (some 4) (fun K hK=>?_);rw[if_pos (by rfl)]
   go_simp
   refine hK.o _ _ (by obtain⟨s0,s1,s2,s3,s4,s5,s6,s7,s8⟩:=ag;exact⟨ak s0,ak s1,ak s2,ak s3,ak s4,ak s5,ak s6,ak s7,ak s8⟩) (fun ag=>?_);clear hK K;refine la 11 ?_;refine pu 12 5 ?_;refine dn ?_;have hb4:Below X.heap.size X w4:=aA (aX (ay _ _)) (by simp) bP.o;have h4:=aY H2.o hb4;have e4:=aC E2.o hb4;have m4:=M2.o.trans (Mv.bF hb4);have z4:=(hb4.block bx (aj Z2.o)).trans Z2.o;have sz:=hb4.size;have Oi:=Fu.o;have Oj:=ni.o;have q1:=dw H2.o (by have:=ki.o;omega) (Kd.eH iK.o (by simp):cO w4 X.heap.size _ _);have q2:=dw H2.o (by have:=ki.o;omega) (Kd.eH ia.o (by simp):cO w4 X.heap.size _ _);have h5:=aI h4 (QI ((Sp.aQ E.M a).getD cv) P1 k1 P2 k2);have e5:=aC e4 (af (ay _ _) (QI ((Sp.aQ E.M a).getD cv) P1 k1 P2 k2));have m5:=m4.alloc (QI ((Sp.aQ E.M a).getD cv) P1 k1 P2 k2);have z5:=bh z4 (QI ((Sp.aQ E.M a).getD cv) P1 k1 P2 k2);have zt:=dh w4 (QI ((Sp.aQ E.M a).getD cv) P1 k1 P2 k2);have q1:=Kd.aZ q1 (QI ((Sp.aQ E.M a).getD cv) P1 k1 P2 k2);have q2:=Kd.aZ q2 (QI ((Sp.aQ E.M a).getD cv) P1 k1 P2 k2);obtain⟨bt,Fv⟩:=ex w4.heap.size;rw[<-Fv]at zt⊢;have nj:w.heap.size<=bt:=by omega
   have zt:(w4.alloc (QI ((Sp.aQ E.M a).getD cv) P1 k1 P2 k2)).heap[bt]? =some (.cells #[.slice P1 ((Sp.aQ E.M a).getD cv).f0.length k1,.slice P2 ((Sp.aQ E.M a).getD cv).f1.length k2] 40 (0,0)):=zt;clear h4 e4 m4 z4 hb4 y0 y1 y2 y3 y4 y5 y6 y7 t1;have BTN:=hd (show bt≠g/\some bt≠Fw.ownBlock/\some bt≠Jz.ownBlock from⟨by have:=(aV H2.o).1;omega,fun e=>by have:=(aV H2.o).2.1 _ e.symm;omega,fun e=>by have:=(aV H2.o).2.2 _ e.symm;omega⟩);have SB:=hd (show w.heap.size<=bt from nj);clear Fv nj sz Oi Oj;generalize (w4.alloc (QI ((Sp.aQ E.M a).getD cv) P1 k1 P2 k2))=V at h5 e5 m5 z5 zt q1 q2⊢;have H5:=hd h5;have E5:=hd e5;have M5:=hd m5;have Z5:=hd z5;have ZT:=hd zt;have Q1:=hd q1;have Q2:=hd q2;clear h5 e5 m5 z5 zt q1 q2
  rotate_left
  case' _=>
   rw[if_pos (by rfl)]
   go_simp
   refine hK.o _ _ (by obtain⟨s0,s1,s2,s3,s4,s5,s6,s7,s8⟩:=ag;exact⟨ak s0,ak s1,ak s2,ak s3,ak s4,ak s5,ak s6,ak s7,ak s8⟩) (fun ag=>?_);clear hK K;refine on 6 (some 19) (fun K hK=>?_);refine ge (oV E.M _ a (X.drew.alloc (.cells #[.slice none 0 0,.slice none 0 0] 40)) (fq (aC E2.o (af (aX (ay _ _)) _))) qw.o) ?_;rintro e w4⟨u1,u2,rfl,r1,r2,hb4⟩;obtain⟨P1,k1,rfl⟩:=Kd.ai r1;obtain⟨P2,k2,rfl⟩:=Kd.ai r2;have iK:=hd r1;have ia:=hd r2;have bP:=hd hb4;clear r1 r2 hb4;refine⟨_,rfl,?_⟩;refine hK.o _ _ (by obtain⟨s0,s1,s2,s3,s4,s5,s6,s7,s8⟩:=ag;exact⟨(bP.o.cell (aR _ _ s0)).trans s0,(bP.o.cell (aR _ _ s1)).trans s1,(bP.o.cell (aR _ _ s2)).trans s2,(bP.o.cell (aR _ _ s3)).trans s3,(bP.o.cell (aR _ _ s4)).trans s4,(bP.o.cell (aR _ _ s5)).trans s5,(bP.o.cell (aR _ _ s6)).trans s6,(bP.o.cell (aR _ _ s7)).trans s7,(bP.o.cell (aR _ _ s8)).trans s8⟩) (fun ag=>?_);clear hK K;refine nm ?_;refine cZ 7 12 8 20 9 21 ?_;have sA:w4.heap[X.heap.size]? =some (.cells #[.slice none 0 0,.slice none 0 0] 40 (0,0)):=(bP.o.block _ (by simp)).trans (by have:=dh X.drew (.cells #[.slice none 0 0,.slice none 0 0] 40);exact this);have X9:=(aa sA 0).trans rfl;have Ya:=(aa sA 1).trans rfl;have Yb:=ah sA 0;have Yc:=ah sA 1;refine la 11 ?_;refine pu 12 5 ?_;refine dn ?_;have hb4:Below X.heap.size X w4:=aA (af (aX (ay _ _)) _) (by simp) bP.o;have h4:=aY H2.o hb4;have e4:=aC E2.o hb4;have m4:=M2.o.trans (Mv.bF hb4);have z4:=(hb4.block bx (aj Z2.o)).trans Z2.o;have sz:=hb4.size;have Oi:=Fu.o;have Oj:=ni.o;have q1:=dw H2.o (by have:=ki.o;omega) (Kd.eH iK.o (by simp):cO w4 X.heap.size _ _);have q2:=dw H2.o (by have:=ki.o;omega) (Kd.eH ia.o (by simp):cO w4 X.heap.size _ _);obtain⟨bt,Fv⟩:=ex X.heap.size;rw[<-Fv]at sA⊢;have nj:w.heap.size<=bt:=by omega
   have hbg:=(aV HW.o).1;have far: ∀k,k≠bt->((w4.setCell ⟨bt,0,none⟩ (.slice P1 ((Sp.aQ E.M a).getD cv).f0.length k1)).setCell ⟨bt,1,none⟩ (.slice P2 ((Sp.aQ E.M a).getD cv).f1.length k2)).heap[k]? =w4.heap[k]? :=fun k hk=>(dX _ ⟨bt,1,none⟩ _ k hk).trans (dX _ ⟨bt,0,none⟩ _ k hk)
   have L6:some bt≠Jz.ownBlock:=fun e=>by have:=(aV H2.o).2.2 _ e.symm;omega
   have h5:aJ ((w4.setCell ⟨bt,0,none⟩ (.slice P1 ((Sp.aQ E.M a).getD cv).f0.length k1)).setCell ⟨bt,1,none⟩ (.slice P2 ((Sp.aQ E.M a).getD cv).f1.length k2)) base g _ _ s1 Fw Jz:=qX h4 (by simp only[World.setCell];simp) (fun k hk _=>far k hk) ⟨_,_,sA,by decide,by decide⟩ L6;have m5:Mv g w ((w4.setCell ⟨bt,0,none⟩ (.slice P1 ((Sp.aQ E.M a).getD cv).f0.length k1)).setCell ⟨bt,1,none⟩ (.slice P2 ((Sp.aQ E.M a).getD cv).f1.length k2)) vT vF Fw Jz:=(m4.iq nj _).iq nj _;have e5:dO ((w4.setCell ⟨bt,0,none⟩ (.slice P1 ((Sp.aQ E.M a).getD cv).f0.length k1)).setCell ⟨bt,1,none⟩ (.slice P2 ((Sp.aQ E.M a).getD cv).f1.length k2)) base E [.slice A0 E.M.f0.length c0,.slice A1 E.M.f1.length c1,.slice A2 E.M.f2.length c2,.slice A3 E.M.f3.length c3,.slice A4 E.M.f4.length c4,.slice A5 E.M.f5.length c5,.slice A6 E.M.f6.length c6,.slice A7 E.M.f7.length c7] vL v1 v2:=nX HW.o m5 X7.o;have z5:=(far bx (by omega)).trans z4;have zt:=bC (bC sA 0 (.slice P1 ((Sp.aQ E.M a).getD cv).f0.length k1)) 1 (.slice P2 ((Sp.aQ E.M a).getD cv).f1.length k2);have q1:=jH q1 far sA (by decide);have q2:=jH q2 far sA (by decide);clear sA X9 Ya Yb Yc far hbg L6;have zt:((w4.setCell ⟨bt,0,none⟩ (.slice P1 ((Sp.aQ E.M a).getD cv).f0.length k1)).setCell ⟨bt,1,none⟩ (.slice P2 ((Sp.aQ E.M a).getD cv).f1.length k2)).heap[bt]? =some (.cells #[.slice P1 ((Sp.aQ E.M a).getD cv).f0.length k1,.slice P2 ((Sp.aQ E.M a).getD cv).f1.length k2] 40 (0,0)):=zt;clear h4 e4 m4 z4 hb4 y0 y1 y2 y3 y4 y5 y6 y7 t1;have BTN:=hd (show bt≠g/\some bt≠Fw.ownBlock/\some bt≠Jz.ownBlock from⟨by have:=(aV H2.o).1;omega,fun e=>by have:=(aV H2.o).2.1 _ e.symm;omega,fun e=>by have:=(aV H2.o).2.2 _ e.symm;omega⟩);have SB:=hd (show w.heap.size<=bt from nj);clear Fv nj sz Oi Oj;generalize ((w4.setCell ⟨bt,0,none⟩ (.slice P1 ((Sp.aQ E.M a).getD cv).f0.length k1)).setCell ⟨bt,1,none⟩ (.slice P2 ((Sp.aQ E.M a).getD cv).f1.length k2))=V at h5 e5 m5 z5 zt q1 q2⊢;have H5:=hd h5;have E5:=hd e5;have M5:=hd m5;have Z5:=hd z5;have ZT:=hd zt;have Q1:=hd q1;have Q2:=hd q2;clear h5 e5 m5 z5 zt q1 q2
  all_goals
   have Tn:=(aa ZT.o 0).trans rfl
   go_wp2_with fail
   refine(gm V base g _ _ s1 Fw Jz _ H5.o HI.o ((Sp.aQ E.M a).getD cv).f0 (fO H5.o Q1.o) (by have:=T8.o;omega)).mono ?_;rintro e W6⟨rfl,ri,rj,m6,h6⟩;have bne:=(show bt≠g/\some bt≠Fw.ownBlock/\some bt≠Jz.ownBlock from BTN.o);have Mb:=(m6.block bt (aj ZT.o) bne.1 bne.2.1 bne.2.2).trans ZT.o;have z6:=(m6.block bx (aj Z5.o) Qg.o.1 Qg.o.2.1 Qg.o.2.2).trans Z5.o;have hnew: ∀k,k<V.heap.size->(some k≠Fw.ownBlock/\some k≠Jz.ownBlock)->some k≠ri.ownBlock/\some k≠rj.ownBlock:=fun k hk hn=>⟨fun e=>(m6.BG k e.symm).elim (fun h=>hn.1 h.symm) (fun h=>by omega),fun e=>(m6.Ax k e.symm).elim (fun h=>hn.2 h.symm) (fun h=>by omega)⟩
   have Ye:=hd (And.intro bne.1 (hnew bt (aj ZT.o) ⟨bne.2.1,bne.2.2⟩));have acs:=hd (And.intro Qg.o.1 (hnew bx (aj Z5.o) ⟨Qg.o.2.1,Qg.o.2.2⟩));have Q61:=hd (lu Q1.o m6 (fun _ hk=>hk));have Q62:=hd (lu Q2.o m6 (fun _ hk=>hk));obtain⟨r,hr⟩:=ex (s1.pop ((Sp.aQ E.M a).getD cv).f0);rw[<-hr]at h6;have HIR:=hd (show Sp.cq r from hr▸Sp.iA HI.o _);have HLR:=hd (show r.T.length+8<=1000000 from hr▸(by have:=p9 s1 ((Sp.aQ E.M a).getD cv).f0;have:=HL.o;omega));have ir:=hd hr;clear hr;obtain⟨PT,kT,rfl⟩:=Kd.ai h6.2.2.2.2.1;obtain⟨PF,kF,rfl⟩:=Kd.ai h6.2.2.2.2.2.1;have fJ:=(aa h6.1 12).trans (dN h6.2.1 _ _ _);have Om:=(aa h6.1 11).trans (kY h6.2.1 _ _ _);have Jy:=(aa z6 0).trans rfl;have Tn:=(aa Mb 0).trans rfl;have Yd:=(aa Mb 1).trans rfl;have M6:=hd m6;have H6:=hd h6;have ZT6:=hd Mb;have Z6:=hd z6;clear m6 h6 Mb z6 bne hnew
   go_wp2_with fail
   refine st 19 (fun w'=>w'.cell? ⟨g,12,none⟩=some (.slice PF r.F.length kF)/\w'.cell? ⟨g,11,none⟩=some (.slice PT r.T.length kT)/\w'.cell? ⟨bx,0,none⟩=some (.int .i64 op)/\w'.cell? ⟨bt,0,none⟩=some (.slice P1 ((Sp.aQ E.M a).getD cv).f0.length k1)/\w'.cell? ⟨bt,1,none⟩=some (.slice P2 ((Sp.aQ E.M a).getD cv).f1.length k2)) [18] ⟨fJ,Om,Jy,Tn,Yd⟩ (fun ag=>?_);refine cZ 0 26 1 27 2 28 ?_;refine pu 3 29 ?_;refine tk 4 30 ag ?_;refine pu 5 31 ?_;refine tk 6 32 ag ?_;refine tk 7 33 ag ?_;refine cZ 8 34 9 35 10 36 ?_;refine tk 11 37 ag ?_;refine pu2 12 38 13 39 ?_;refine on 14 (some 40) (fun K hK=>?_);rw[if_pos (by rfl)]
   go_simp
   refine hK.o _ _ (by obtain⟨s0,s1,s2,s3,s4⟩:=ag;exact⟨ak s0,ak s1,ak s2,ak s3,ak s4⟩) (fun ag=>?_);clear hK K;refine on 15 (some 41) (fun K hK=>?_);have acu:=aV H6.o;refine Kd.gP L3 (w0:=W6.drew) (W:=W6.drew) base (by rfl) (.tmp 30) (.tmp 40) 109 113 (.agg #[.int .i64 0,.slice none 0 0,.slice none 0 0,.int .i64 0,.bool false]) 72 (by rfl) underlying109 Un rfl (by decide) (by decide) (.slice PF r.F.length kF) r.F ⟨op,((Sp.aQ E.M a).getD cv),r.T.length,false⟩ [.int .i64 op,.slice P1 ((Sp.aQ E.M a).getD cv).f0.length k1,.slice P2 ((Sp.aQ E.M a).getD cv).f1.length k2,.int .i64 r.T.length,.bool false] (fun k=>k≠g/\some k≠(Value.slice PT r.T.length kT).ownBlock) (fun k=>k≠g/\some k≠(Value.slice PT r.T.length kT).ownBlock/\some k≠(Value.slice PF r.F.length kF).ownBlock) (by rfl) (by rfl) (xC _ _ _ ⟨op,((Sp.aQ E.M a).getD cv),r.T.length,false⟩ (Kd.fu Q61.o) (Kd.fu Q62.o)) (fun k hk=>⟨⟨hk.1,hk.2.1⟩,hk.2.2⟩) ?_ (Kd.fu H6.o.2.2.2.2.2.1) ⟨rfl,rfl,rfl,aU _,fun _ _=>rfl⟩ ?_ ?_ ?_
   ·exact fun k hk=>by have hk2:W6.heap.size<=k:=hk;exact⟨by omega,fun he=>by have:=acu.2.1 k he.symm;omega⟩
   ·show base<=W6.heap.size;have:=H6.o.2.2.1;omega
   ·have:=HIR.o.2.1;omega
   intro v9 w9 hR hB hG hat;obtain⟨P9,k9,rfl⟩:=Kd.ai hR;simp only[List.length_append,List.length_cons,List.length_nil,Nat.zero_add]at hR hat;have hbr:w9.heap[bt]? =_:=(hG.block bt (aj ZT6.o) Ye.o.2.2).trans ZT6.o;have hbq:w9.heap[bx]? =_:=(hG.block bx (aj Z6.o) acs.o.2.2).trans Z6.o;have Hz:=bD (w:=W6.drew) H6.o.1 hG (fun e=>(H6.o.2.2.2.2.2.1.1 g e.symm).1 rfl);have ht9:=Kd.mm (ok:=fun k=>k≠g/\ ¬di vL v1 v2 k) (Kd.bQ (Kd.fu H6.o.2.2.2.2.1) (fun k hk=>⟨⟨hk.1,hk.2.2⟩,hk.2.1⟩)) hG hat;have q9:=Kd.mm (ok:=fun k=>k≠g/\some k≠(Value.slice PT r.T.length kT).ownBlock) (Kd.bQ (Kd.fu Q61.o) (fun k hk=>⟨⟨hk.1,hk.2.1⟩,hk.2.2⟩)) hG hat;have od:=hd hR;have xX:=hd hG;have Ac:=hd hat;have Fx:=hd ht9;have HQ9:=hd q9;have Yf:=hd Hz;have KO:=hd hbr;have HBQ:=hd hbq;clear hR hG hat hB ht9 q9 Hz hbr hbq;refine hK.o _ _ ⟨(aa Yf.o 12).trans (dN H6.o.2.1 _ _ _),(aa Yf.o 11).trans (kY H6.o.2.1 _ _ _),(aa HBQ.o 0).trans rfl,(aa KO.o 0).trans rfl,(aa KO.o 1).trans rfl⟩ (fun ag=>?_);clear hK K;refine nm ?_;have y0:=(aa Yf.o 12).trans (dN H6.o.2.1 _ _ _);have z0:=ah Yf.o 12;refine pu2 16 42 17 43 ?_;refine la 18 ?_;refine dn ?_
   have h10:=Ba (T:=r.T) (bad:=r.bad) Yf.o H6.o.2.1 H6.o.2.2.1 H6.o.2.2.2.1 Fx.o od.o (fun k hk=>by
    rcases Ac.o with e|⟨k2,e,hk2⟩
    ·exact H6.o.2.2.2.2.2.2.1 k (by rw[<-e];exact hk)
    ·intro hd9;have:=H6.o.2.2.2.2.2.2.2 k hd9;rw[e]at hk;injection hk with hk;have hk3:W6.heap.size<=k2:=hk2;omega) (fun k hk=>by have:=H6.o.2.2.2.2.2.2.2 k hk;have:=xX.o.size;have h3:W6.heap.size<=w9.heap.size:=this;omega)
   have m10:=(((Mv.refl g W6 (.slice PT r.T.length kT) (.slice PF r.F.length kF)).drewN 1).UQ xX.o Ac.o).set 12 (.slice P9 (r.F.length+1) k9);have Yg:=Kd.dr HQ9.o (p:=⟨g,12,none⟩) (fun k hk=>hk.1.1) (.slice P9 (r.F.length+1) k9);have zb:=bR KO.o (p:=⟨g,12,none⟩) (by have:=Ye.o.1;exact this) (.slice P9 (r.F.length+1) k9);clear y0 z0 fJ Om Jy Tn Yd;generalize w9.setCell ⟨g,12,none⟩ (.slice P9 (r.F.length+1) k9)=jC at h10 m10 Yg zb⊢;have Tn:=(aa zb 0).trans rfl;have Bb:=hd h10;have M10:=hd m10;have Q10:=hd Yg;clear h10 m10 Yg zb
   go_wp2_with fail
   refine(dP jC base g _ _ _ _ _ _ Bb.o ((Sp.aQ E.M a).getD cv).f0 (fO Bb.o (Kd.bQ Q10.o (fun k hk=>⟨hk.1.1,hk.1.2,hk.2⟩))) (by have:=HLR.o;have:=T8.o;show r.T.length+_<=_;omega)).mono ?_;rintro e vM⟨rfl,acw,acy,m11,h11⟩;have UR:=hd m11;have Wy:=hd h11;clear m11 h11
   go_wp2_with fail
   go_end0
   have e:s.open_ op ((Sp.aQ E.M a).getD cv)=Sp.St.push ⟨r.T,r.F++ [⟨op,((Sp.aQ E.M a).getD cv),r.T.length,false⟩],r.bad⟩ ((Sp.aQ E.M a).getD cv).f0:=by unfold Sp.St.open_;dsimp only;rw[<-oK.o,<-ir.o]
   rw[e];exact⟨rfl,acw,acy,((M5.o.trans M6.o).trans M10.o).trans UR.o,Wy.o⟩
end Go.Proofs.YthehihjcpiadgaaGreat
namespace Go.Proofs.YthehihjcpiadgaaGreat
open Go.RowKit Go.Proofs.Wz.PrintWords Go.Proofs.Wz.bM Go.Shelf
attribute [local go_sem] Oper.semAt_some
def NoPanic(Q:Exit->Act->World->Prop):Exit->Act->World->Prop:=fun e a w=>match e with
 | .panic _=>False
 |e=>Q e a w
theorem Oo{P:Program}{c:Code}{Q:Exit->Act->World->Prop}{a:Act}{w:World}(h:c.wp P (NoPanic Q) a w):c.wp P Q a w:=
 Code.wp_mono (fun e a w h=>by cases e<;>first|exact h|exact h.elim) h
def mark(D:Nat):Deferred:= {target:= .collected D,args:=#[]}
def mG(w:World)(B:Nat)(Ds:List Nat):Prop:=Ds.Nodup/\ ∀D∈Ds,B<=D/\w.heap[D]? =some (.deferred (some []))
theorem td{w w':World}{B:Nat}{Ds:List Nat}(h:mG w B Ds)(hk: ∀(k:Nat) (o:Obj),w.heap[k]? =some o->o.isCells=false->w'.heap[k]? =some o):mG w' B Ds:=
 ⟨h.1,fun D hD=>⟨(h.2 D hD).1,hk D _ (h.2 D hD).2 rfl⟩⟩
theorem K0{w:World}{B D:Nat}{Ds:List Nat}(h:mG w B (D::Ds)):mG (w.putObj D (.deferred none)) B Ds:=by
 obtain⟨hn,hd9⟩:=h;rw[List.nodup_cons]at hn;exact⟨hn.2,fun D' Yh=>⟨(hd9 D' (List.mem_cons_of_mem _ Yh)).1,(World.putObj_heap_other (by intro e;subst e;exact hn.1 Yh)).trans (hd9 D' (List.mem_cons_of_mem _ Yh)).2⟩⟩
theorem pG{F:Fence}{n:Nat}{P:Program}{fn:Func}{tmps:Array Value}{R:Ending->World->Prop}{B:Nat}(J:World->Prop)(hJ: ∀W D o',J W->B<=D->W.heap[D]? =some (.deferred (some []))->J (W.putObj D o'))(hend: ∀W,J W-> ∃v,(results fn tmps).run P W= .ok v W/\R (.returned v) W):
 ∀(Ds:List Nat) (W:World),J W->mG W B Ds->LeavesInM F n P fn tmps R (Ds.map mark) .returning W
 | [],W,h,_=>hend W h
 |D::Ds,W,h,hm=>by
  have hd9:=hm.2 D jy;exact⟨by simp,.inl ⟨D,_,rfl,run_takeDeferred hd9.2,pG J hJ hend Ds _ (hJ W D _ h hd9.1 hd9.2) (K0 hm)⟩⟩
theorem uG{w w':World}{base g B:Nat}{D:Nat->Prop}{fx:List Value}{s:Sp.St}{vT vF dI eG:Value}{Ds:List Nat}(h:aJ w base g D fx s vT vF)(m:Mv g w w' vT vF dI eG)(hm:mG w B Ds):mG w' B Ds:=
 td hm (fun k o hk ho=>(nV (B:=0) h m).same k o (Nat.zero_le _) hk ho)
def looked(s:Sp.St)(pre:List (Int×Int)):Sp.St×List Int:=pre.foldl (fun a x=>let b:=a.1.any;(b.2.err (decide (b.1≠0)&&decide (b.1≠x.2)),a.2++ [b.1])) (s,[])
theorem ru(s:Sp.St)(pre:List (Int×Int))(x:Int×Int):looked s (pre++ [x])=((looked s pre).1.any.2.err (decide ((looked s pre).1.any.1≠0)&&decide ((looked s pre).1.any.1≠x.2)),(looked s pre).2++ [(looked s pre).1.any.1]):=by
 unfold looked;rw[List.foldl_append];rfl
theorem pH(s:Sp.St)(zs:List Int):looked s (Bk.upto (Bk.at_ zs) zs.length)=s.look zs:=by
 have h: ∀(l:List (Int×Int)) (a:Sp.St×List Int),l.foldl (fun a x=>let b:=a.1.any;(b.2.err (decide (b.1≠0)&&decide (b.1≠x.2)),a.2++ [b.1])) a=(l.map (·.2)).foldl (fun a x=>let b:=a.1.any;(b.2.err (decide (b.1≠0)&&decide (b.1≠x)),a.2++ [b.1])) a:=by
  intro l;induction l with
  |nil=>intro a;rfl
  |cons x l ih=>intro a;exact ih _
 unfold looked;rw[h,BO,List.foldl_reverse];rfl
theorem nk(s:Sp.St)(pre:List (Int×Int)):(looked s pre).1.F=s.F:=by
 unfold looked
 have h: ∀(l:List (Int×Int)) (a:Sp.St×List Int),(l.foldl (fun a x=>let b:=a.1.any;(b.2.err (decide (b.1≠0)&&decide (b.1≠x.2)),a.2++ [b.1])) a).1.F=a.1.F:=by
  intro l;induction l with
  |nil=>intro a;rfl
  |cons x l ih=>intro a;rw[List.foldl_cons,ih];exact Jr _
 exact h _ _
theorem pI{s:Sp.St}(hI:Sp.cq s)(pre:List (Int×Int)):Sp.cq (looked s pre).1:=by
 unfold looked
 have h: ∀(l:List (Int×Int)) (a:Sp.St×List Int),Sp.cq a.1->Sp.cq (l.foldl (fun a x=>let b:=a.1.any;(b.2.err (decide (b.1≠0)&&decide (b.1≠x.2)),a.2++ [b.1])) a).1:=by
  intro l;induction l with
  |nil=>intro a h;exact h
  |cons x l ih=>intro a h;exact ih _ (Sp.ox (Sp.qU h) _)
 exact h _ _ hI
theorem th(s:Sp.St)(pre:List (Int×Int)):(looked s pre).2.length=pre.length:=by
 unfold looked
 have h: ∀(l:List (Int×Int)) (a:Sp.St×List Int),(l.foldl (fun a x=>let b:=a.1.any;(b.2.err (decide (b.1≠0)&&decide (b.1≠x.2)),a.2++ [b.1])) a).2.length=a.2.length+l.length:=by
  intro l;induction l with
  |nil=>intro a;rfl
  |cons x l ih=>intro a;rw[List.foldl_cons,ih];simp;omega
 simpa using h pre (s,[])
theorem Fy{s:Sp.St}(hI:Sp.cq s)(pre:List (Int×Int)):(looked s pre).1.T.length+pre.length<=max s.T.length (s.top.f2.toNat+pre.length)/\s.top.f2.toNat<=(looked s pre).1.T.length:=by
 rw[<-List.reverse_reverse pre];generalize pre.reverse=l;induction l with
 |nil=>exact⟨by show s.T.length+0<=_;omega,by have:=Sp.zy hI;show _<=s.T.length;omega⟩
 |cons x l ih=>
  rw[List.reverse_cons];generalize l.reverse=pre at ih⊢;rw[ru];have Tm:=pI hI pre;have ht:(looked s pre).1.top=s.top:=by unfold Sp.St.top;rw[nk]
  show(looked s pre).1.any.2.T.length+(pre++ [x]).length<=_/\_<=(looked s pre).1.any.2.T.length
  have hh:=Sp.zy Tm;rw[ht]at hh;unfold Sp.St.any;rw[ht];simp only[List.length_append,List.length_singleton]
  split
  ·dsimp only;omega
  ·simp only[List.length_take];omega
theorem wQ(sk:Sp.St)(n:Nat)(l:List Int)(k:Nat)(hk:k<l.length):sk.labels n (l.drop k)=if(Sp.label (sk.at (rd l (k:Int)))).length≠n then(⟨sk.T,sk.F,true⟩,false)else((sk.look (Sp.label (sk.at (rd l (k:Int))))).1.back (sk.look (Sp.label (sk.at (rd l (k:Int))))).2).labels n (l.drop (k+1)):=by
 rw[List.drop_eq_getElem_cons hk];have e:rd l (k:Int)=l[k]:=by simp[rd,gq,hk]
 rw[e];rfl
theorem Oq{w:World}{g bs:Nat}{vT vF v:Value}{xs:List Int}(h:nh w g vT vF v xs)(hb:bs<w.heap.size)(hn:bs≠g/\some bs≠vT.ownBlock/\some bs≠vF.ownBlock): ∃b,b<w.heap.size/\b≠g/\Bk.Holds w b v xs:=by
 obtain⟨A,c,b,rfl,hH,hl,hle,h1,h2,h3⟩:=h;rcases hl with hl|rfl
 ·exact⟨b,hl,h1,hH⟩
 ·refine⟨bs,hb,hn.1,?_⟩
  rcases hH with h|⟨off,cap,e,-⟩
  ·exact .inl h
  ·cases e
theorem RY{w:World}{g n₀:Nat}{vT vF v:Value}{xs:List Int}(h:w.ownsRow n₀ 3 1 v xs.length (xs.map (Value.int .i64)))(hg:g<n₀)(hT: ∀k,vT.ownBlock=some k->k<n₀)(hF: ∀k,vF.ownBlock=some k->k<n₀)(hn:n₀<=w.heap.size):nh w g vT vF v xs:=by
 have hr:(Kd.int .i64).R 3 w n₀ (fun k=>k≠g/\some k≠vT.ownBlock/\some k≠vF.ownBlock) v xs:=by
  refine⟨fun k hk=>?_,_,h,?_⟩
  ·have hb:=iN h k hk
   exact⟨by omega,fun e=>by have:=hT _ e.symm;omega,fun e=>by have:=hF _ e.symm;omega⟩
  ·exact(Kd.wE (enc:=Value.int .i64) xs).lU (fun _ _ hp=>hp)
 exact ze hr (fun _ hk=>hk) (by omega) (fun k hk=>by have:=hT k hk;omega) (fun k hk=>by have:=hF k hk;omega)
theorem FA{W W':World}{B base g:Nat}{D:Nat->Prop}{fx:List Value}{s:Sp.St}{vT vF:Value}(h:aJ W base g D fx s vT vF)(hF:iG W base (fun k=>(k≠g/\some k≠vT.ownBlock)/\k<B) vF s.F)(hT: ∀k,vT.ownBlock=some k->k<B)(hg:g<B)(hs:W.heap.size<=W'.heap.size)(hb: ∀k,k<B->W'.heap[k]? =W.heap[k]?):
 aJ W' base g D fx s vT vF/\iG W' base (fun k=>(k≠g/\some k≠vT.ownBlock)/\k<B) vF s.F:=by
 obtain⟨hg0,iR,hbg,sR,hT0,hF0,o9,hD⟩:=h;have hF2:iG W' base (fun k=>(k≠g/\some k≠vT.ownBlock)/\k<B) vF s.F:=Kd.oM hF (fun k hk _=>hb k hk.2);refine⟨⟨(hb g hg).trans hg0,iR,hbg,sR,?_,Kd.bQ hF2 (fun k hk=>hk.1),o9,fun k hk=>jv (hD k hk) hs⟩,hF2⟩;obtain⟨h0,inner,ho,hr⟩:=hT0;exact⟨h0,inner,mR ho (fun k hk=>hb k (hT k hk)),hr.lU (fun _ _ hp=>hp)⟩
def JA(V:World)(base g:Nat)(D:Nat->Prop)(fx:List Value)(st:Sp.St)(vT vF pv:Value)(pre:List (Int×Int))(W:World):Prop:=
 ∃dI v8,dI.ownBlock=vT.ownBlock/\W.os=V.os/\W.tape=V.tape/\W.output=V.output/\V.heap.size+2<=W.heap.size/\(∀k,k<V.heap.size->k≠g->W.heap[k]? =V.heap[k]?)/\
  aJ W base g D fx (looked st pre).1 dI vF/\iG W base (fun k=>(k≠g/\some k≠dI.ownBlock)/\k<V.heap.size) vF st.F/\
  W.ownsRow V.heap.size 3 1 v8 pre.length ((looked st pre).2.map (Value.int .i64))/\Boxed W V.heap.size 23 v8/\W.heap[V.heap.size+1]? =some (.cells #[pv] 23 (0,0))
theorem K1{V:World}{base g B:Nat}{D:Nat->Prop}{fx:List Value}{st:Sp.St}{vT vF pv:Value}(hB:V.heap.size<=B)(hT: ∀k,vT.ownBlock=some k->k<V.heap.size)(hg:g<V.heap.size):OwnFrom B (JA V base g D fx st vT vF pv):=by
 rintro pre W W' row⟨dI,v8,e1,e2,e3,e4,e5,e6,hS,hF,ho,gG,hb2⟩hgr hr;have hsm: ∀k,k<V.heap.size->W'.heap[k]? =W.heap[k]? :=fun k hk=>hgr.block k (by omega) (fun e=>by have:=(hr k e.symm).1;omega)
 obtain⟨hS',hF'⟩:=FA hS (by rw[nk];exact hF) (fun k hk=>hT k (by rw[<-e1];exact hk)) hg hgr.size hsm;rw[nk]at hF';refine⟨dI,v8,e1,hgr.os.trans e2,hgr.tape.trans e3,hgr.output.trans e4,cG e5 hgr.size,fun k hk UN=>(hsm k hk).trans (e6 k hk UN),hS',hF',ho.kept hgr ?_,gG.kept hgr (fun e=>?_),(hgr.block _ (by omega) (fun e=>?_)).trans hb2⟩
 ·rcases ho.2 with⟨rfl,_⟩|⟨gg,cap,cur,rfl,_,hgb,_⟩
  ·exact .inl rfl
  ·refine .inr fun e'=>?_
   obtain⟨ob,Tp,hc⟩:=(hr gg (by simpa[Value.ownBlock]using e'.symm)).2;rw[hgb]at Tp;cases Tp;cases hc
 ·obtain⟨ob,Tp,hc⟩:=(hr _ e.symm).2
  rw[show W.heap[V.heap.size]? =_ from gG]at Tp;cases Tp;cases hc
 ·obtain⟨ob,Tp,hc⟩:=(hr _ e.symm).2
  rw[hb2]at Tp;cases Tp;cases hc
end Go.Proofs.YthehihjcpiadgaaGreat
namespace Go.Proofs.YthehihjcpiadgaaGreat
open Go.RowKit Go.Proofs.Wz.PrintWords Go.Proofs.Wz.bM Go.Shelf
theorem pJ(st:Sp.St)(pre:List (Int×Int))(y:Int×Int)(fl:Bool)(hfl:fl=((looked st pre).1.any.2.bad||(decide ((looked st pre).1.any.1≠0)&&decide ((looked st pre).1.any.1≠y.2)))):
 (looked st (pre++ [y])).1=⟨(looked st pre).1.any.2.T,(looked st pre).1.any.2.F,fl⟩:=by
 rw[ru,hfl];rfl
theorem rT{V W' W3 w1:World}{base g b B:Nat}{D:Nat->Prop}{fx:List Value}{st:Sp.St}{vT vF pv v8 Mc Fw dI:Value}{pre:List (Int×Int)}{y:Int×Int}{tmp:Obj}
 (aw:qZ g W' W3) (e0:Fw.ownBlock=vT.ownBlock) (e1:dI.ownBlock=Fw.ownBlock) (e2:W'.os=V.os) (e3:W'.tape=V.tape) (e4:W'.output=V.output) (e5:V.heap.size+2<=W'.heap.size) (e6: ∀k,k<V.heap.size->k≠g->W'.heap[k]? =V.heap[k]?)
 (hg:g<V.heap.size) (hTl: ∀k,vT.ownBlock=some k->k<V.heap.size) (hb:b<V.heap.size) (hbg:b≠g) (hB:V.heap.size<=B)
 (hS:aJ W3 base g D fx (looked st (pre++ [y])).1 dI vF)
 (hF:iG W' base (fun k=>(k≠g/\some k≠Fw.ownBlock)/\k<V.heap.size) vF st.F)
 (ho:W'.ownsRow V.heap.size 3 1 v8 pre.length ((looked st pre).2.map (Value.int .i64))) (hb2:W'.heap[V.heap.size+1]? =some (.cells #[pv] 23 (0,0)))
 (hgrow:(W3.alloc tmp).grownBy w1 v8.ownBlock)
 (hv2:Boxed (w1.setCell ⟨V.heap.size,0,none⟩ Mc) V.heap.size 23 Mc) (hr2:(w1.setCell ⟨V.heap.size,0,none⟩ Mc).ownsRow V.heap.size 3 1 Mc (pre.length+1) ((looked st pre).2.map (Value.int .i64)++ [.int .i64 (looked st pre).1.any.1]))
 (hk2:KeepsOthers W3 (w1.setCell ⟨V.heap.size,0,none⟩ Mc)) (hbl:Below V.heap.size W3 (w1.setCell ⟨V.heap.size,0,none⟩ Mc)):
 KeepsFrom B W' (w1.setCell ⟨V.heap.size,0,none⟩ Mc)/\Bk.kB b (V.heap.size+1) W' (w1.setCell ⟨V.heap.size,0,none⟩ Mc)/\JA V base g D fx st vT vF pv (pre++ [y]) (w1.setCell ⟨V.heap.size,0,none⟩ Mc):=by
 have hs3:W3.heap.size=W'.heap.size:=aw.size
 have hn:v8.ownBlock≠some (V.heap.size+1):=fun e=>by
  rcases ho.2 with⟨rfl,_⟩|⟨gg,cap,cur,rfl,_,hgb,_⟩
  ·simp[Value.ownBlock]at e
  ·obtain rfl:gg=V.heap.size+1:=by simpa[Value.ownBlock]using e
   rw[hb2]at hgb;cases hgb
 have hx1:(w1.setCell ⟨V.heap.size,0,none⟩ Mc).heap[V.heap.size+1]? =W'.heap[V.heap.size+1]? :=
  (dX w1 ⟨V.heap.size,0,none⟩ Mc (V.heap.size+1) (by show V.heap.size+1≠V.heap.size;omega)).trans
   ((hgrow.block _ (by simp;omega) (fun e=>hn e.symm)).trans ((Below.heap_alloc W3 _ _ (by omega)).trans (aw.block _ (by omega))))
 have hF3:iG W3 base (fun k=>(k≠g/\some k≠dI.ownBlock)/\k<V.heap.size) vF (looked st (pre++ [y])).1.F:=by
  rw[nk];exact Kd.bQ (Kd.oM hF (fun k hk _=>aw.block k hk.1.1)) (fun k hk=>⟨⟨hk.1.1,by rw[e1];exact hk.1.2⟩,hk.2⟩)
 obtain⟨hS',hF'⟩:=FA hS hF3 (fun k hk=>hTl k (by rw[<-e0,<-e1];exact hk)) hg hbl.size (fun k hk=>hbl.block k hk);rw[nk]at hF';refine⟨KeepsFrom.trans ⟨by omega,fun k o hB' hk _=>(aw.block k (by omega)).trans hk⟩ (hk2.from B),⟨(hbl.block b hb).trans (aw.block b hbg),hx1⟩,dI,Mc,e1.trans e0,hbl.os.trans (aw.os.trans e2),hbl.tape.trans (aw.tape.trans e3),hbl.output.trans (aw.output.trans e4),?_,fun k hk UN=>(hbl.block k hk).trans ((aw.block k UN).trans (e6 k hk UN)),hS',hF',?_,hv2,hx1.trans hb2⟩
 ·have:=hbl.size;omega
 ·rw[ru]
  simpa using hr2
end Go.Proofs.YthehihjcpiadgaaGreat
namespace Go.Proofs.YthehihjcpiadgaaGreat
open Go.RowKit Go.Proofs.Wz.PrintWords Go.Proofs.Wz.bM
def Dm:Result Next->Prop
 | .ok (.value _) _=>True
 | .ok .skip _=>True
 | .halt _ _=>True
 |_=>False
theorem j6{α:Type}{P:Program}{w:World}(s:Sem α)(f:α->Sem Next)(hf: ∀x w,Dm ((f x).run P w)):Dm ((s>>=f).run P w):=by
 rw[Sem.run_bind];cases s.run P w with
 |ok x w'=>exact hf x w'
 |halt x w'=>trivial
theorem gW{P:Program}{w:World}(v:Value):Dm ((pure (Next.value v):Sem Next).run P w):=by
 rw[Sem.run_pure];trivial
def ry(o:Oper):Bool:=match o.op with
 | .move _=>true
 | .assign _=>true
 | .pick .. =>true
 | .load .. =>true
 | .store .. =>true
 | .fieldAddr .. =>true
 | .nilCheck .. =>true
 | .binOp .. =>true
 |_=>false
theorem K2{P:Program}{w:World}{o:Oper}(ρ:Operand->Value)(h:ry o=true):Dm ((execOp ρ o).run P w):=by
 unfold ry at h;unfold execOp
 split at h<;>first|(cases h;done)|(rename_i e;simp only[e])
 ·exact gW _
 ·exact gW _
 ·exact j6 _ _ (fun _ _=>gW _)
 ·exact j6 _ _ (fun _ _=>gW _)
 ·exact j6 _ _ (fun _ _=>by rw[Sem.run_pure];trivial)
 ·exact j6 _ _ (fun _ _=>gW _)
 ·split
  ·simp[runtimePanic,go_sem,Dm]
  ·simp[runtimePanic,go_sem,Dm]
  ·simp[runtimePanic,go_sem,Dm]
  ·split
   ·simp[runtimePanic,go_sem,Dm]
   ·refine j6 _ _ (fun _ _=>j6 _ _ (fun _ _=>?_))
    split
    ·exact j6 _ _ (fun _ _=>gW _)
    ·exact gW _
   ·exact gW _
  ·exact gW _
 ·exact j6 _ _ (fun _ _=>gW _)
theorem zD{P:Program}{w:World}{o:Oper}(ρ:Operand->Value)(h:ry o=true):o.about P w ρ=none:=by
 unfold ry at h;unfold Oper.about
 split at h<;>first|(cases h;done)|(rename_i e;rw[e])
def Calm(Q:Exit->Act->World->Prop):Exit->Act->World->Prop
 | .normal,a,w=>Q .normal a w
 |_,_,_=>False
section
variable {F:Fence} {n:Nat} {P:Program} {ops:Array Oper} {Q:Exit->Act->World->Prop} {md:Region.Mode} {S:World->Prop} {ds:List Nat}
theorem K3{o:Oper}{a:Act}{K K':Act->World->Prop}{r:Result Next}(hr:Dm r)(hK: ∀a w,K a w->K' a w)(h:o.upon P a K (Calm Q) r):o.uponIn F n P a K' Q r:=by
 cases r with
 |ok x w'=>cases x<;>first|exact hr.elim|exact hK _ _ h
 |halt x w'=>cases x<;>exact h.elim
theorem uH(hc: ∀(i:Nat) (o:Oper),ops[i]? =some o->ry o=true): ∀(l:List Nat) (a:Act) (w:World),wpOps P ops (Calm Q) l a w->wpOpsIn F n P ops Q l a w
 | [],_,_,h=>h
 |i::rest,a,w,h=>by
  simp only[wpOps,wpOpsIn]at h⊢;cases ho:ops[i]? with
  |none=>rw[ho]at h;exact uH hc rest a w h
  |some o=>
   rw[ho]at h;have hcm:=hc i o ho;dsimp only at h⊢
   split
   ·rename_i hw
    rw[if_pos hw]at h;rcases h with h|⟨-,a',w',h⟩
    ·refine⟨fun f hf=>(by rw[zD _ hcm]at hf;cases hf),?_⟩
     rw[Oper.semAt_eq F.round _ o (fun c hd9=>by unfold ry at hcm;rw[hd9]at hcm;cases hcm)];exact K3 (K2 _ hcm) (fun a w h=>uH hc rest a w h) h
    ·exact h.elim
   ·rename_i hw
    rw[if_neg hw]at h;exact⟨fun f hf=>(by rw[zD _ hcm]at hf;cases hf),uH hc rest _ w h⟩
theorem Ot{id m:Nat}{a:Act}{w:World}(l:Array Bool)(hm:P.follows .mixedOrders=true)(hn:ops.size=m)(hl:Array.replicate m false=l)(hc:ops.all ry=true)(hS:S w.drew)
 (h:S w.drew->aP P .any ops (Calm Q) S ds m l a w.drew):(Code.region id ops true).wpIn F n P Q a w:=by
 subst hn;subst hl;refine wpIn_region_draw fun t=>?_
 refine uH (fun i o ho=>?_) _ _ _ ?_
 ·rw[Array.all_eq_true]at hc
  obtain⟨hi,he⟩:=Array.getElem?_eq_some_iff.1 ho;exact he▸hc i hi
 ·simp only[Region.schedule,hm,Bool.true_or,if_true]
  exact wpAny_sound ops.size t _ a _ (nU _ _ _ _ (h hS))
theorem sti{id:Nat}{a:Act}{w:World}(m:Nat)(S:World->Prop)(ds:List Nat)(hS:S w.drew){l:Array Bool}(h:S w.drew->aP P .any ops (Calm Q) S ds m l a w.drew)
 (hm:P.follows .mixedOrders=true:=by kernel_rfl) (hn:ops.size=m:=by rfl) (hl:Array.replicate m false=l:=by simp only[Array.replicate,List.replicate_succ,List.replicate_zero];rfl) (hc:ops.all ry=true:=by kernel_rfl):(Code.region id ops true).wpIn F n P Q a w:=Ot l hm hn hl hc hS h
end
end Go.Proofs.YthehihjcpiadgaaGreat
namespace Go.Proofs.YthehihjcpiadgaaGreat
open Go.RowKit Go.Proofs.Wz.PrintWords Go.Proofs.Wz.bM Go.Shelf
attribute [local go_sem] Oper.semAt_some
theorem HV{s:Sp.St}(h:Sp.cq s)(l:List Int)(hl:s.T.length+l.length<=1000000):Sp.cq (s.push l):=by
 obtain⟨h1,h2,h3,h4,h5⟩:=h;refine⟨h1,h2,by simp[Sp.St.push];omega,fun i h0 h9=>?_,h5⟩;have:=h4 i h0 h9;refine⟨this.1,?_⟩;simp only[Sp.St.push,List.length_append];have:=this.2;show(bB s.F i).f2<=_
 omega
theorem xY{Q:Exit->Act->World->Prop}{a:Act}{w:World}(h:Q .normal a w):Calm Q .normal a w:=h
theorem Dp(w:World)(base g:Nat)(D:Nat->Prop)(fx:List Value)(s:Sp.St)(vT vF:Value)(h:aJ w base g D fx s vT vF)(hI:Sp.cq s)(js:base<=w.heap.size)(A:Option Addr)(cA:Nat)(l:List Int)(hL:gO base w A l)(Tj:l.length<=100000)(hkn: ∀k:Nat,k<l.length->0<=rd l (k:Int)/\rd l (k:Int)<s.F.length)(h8: ∀i:Int,0<=i->i<s.F.length->(bB s.F i).f1.f0.length<=8/\(bB s.F i).f1.f1.length<=8)(hl:s.T.length+8<=1000000):Calls prog 151 #[.pointer (some ⟨g,0,none⟩),.slice A l.length cA] w (bN g base D fx w vT vF (.tuple #[]) (s.table l)):=by
 refine(callsIn_wide (n:=4)).1 ?_;have h2:=aI h (.cells #[.pointer (some ⟨g,0,none⟩)] 104);have m2:=(Mv.refl g w vT vF).alloc (.cells #[.pointer (some ⟨g,0,none⟩)] 104);have z2:=dh w (.cells #[.pointer (some ⟨g,0,none⟩)] 104);have oc:(w.alloc (.cells #[.pointer (some ⟨g,0,none⟩)] 104)).heap.size=w.heap.size+1:=by simp
 obtain⟨bs,Ma⟩:=ex w.heap.size;refine callsIn_of_wp_marks func151 rfl trivial ?_ rfl;refine wpIn_wide.2 (Oo ?_);simp only[ntmps151,List.size_toArray,List.length_cons,List.length_nil,Nat.reduceAdd,Nat.reduceSub,Array.replicate_succ,Array.replicate_zero,List.push_toArray,List.append_toArray,List.nil_append,List.cons_append]
 go_wp2_with fail
 rw[<-Ma]at z2 oc⊢;generalize w.alloc (.cells #[.pointer (some ⟨g,0,none⟩)] 104)=X at h2 m2 z2 oc⊢;have UT:=hd (show bs≠g/\some bs≠vT.ownBlock/\some bs≠vF.ownBlock from⟨by have:=(aV h).1;omega,fun e=>by have:=(aV h).2.1 _ e.symm;omega,fun e=>by have:=(aV h).2.2 _ e.symm;omega⟩);refine(cH [127] h2 hI oc.symm rfl (by simp)).mono ?_;rintro e W1⟨rfl,qV,qW,m1,h1⟩;obtain⟨s1,hs1⟩:=ex (s.pop [127]);rw[<-hs1]at h1;have AW:=hd (show Sp.cq s1 from hs1▸Sp.iA hI _);have L4:=hd (show s1.F=s.F from hs1▸uA s [127]);have HT1:=hd (show s1.T.length<=s.T.length from hs1▸p9 s [127]);have z1:=(m1.block bs (aj z2) UT.o.1 UT.o.2.1 UT.o.2.2).trans z2;have BS1:=hd (show bs≠g/\some bs≠qV.ownBlock/\some bs≠qW.ownBlock from⟨UT.o.1,fun e=>(m1.BG bs e.symm).elim (fun h=>UT.o.2.1 h.symm) (fun h=>by have:=aj z2;omega),fun e=>(m1.Ax bs e.symm).elim (fun h=>UT.o.2.2 h.symm) (fun h=>by have:=aj z2;omega)⟩);have m01:=m2.trans m1;have Ou:=hd (hL.then (kD h m01 js));have oK:=hd hs1;have H1:=hd h1;have M1:=hd m01;have Z1:=hd z1;have HW:=hd h;have ki:=hd js;have pY:=hd Ma;have K4:=hd Tj;have Ws:=hd hkn;have HEQ:=hd h8;have tb:=(aa z1 0).trans rfl;clear h2 m2 z2 oc m1 h1 hs1 z1 m01 h hI js Ma hL hkn h8 X UT;by_cases hl0:l.length=0
 ·have g0:((l.length:Int)==0)=true:=by simpa using hl0
  have c13:=(aa H1.o.1 13).trans (dy H1.o.2.1 _ _ _);have f13:=ah H1.o.1 13;have HE:Hid (s.table l=⟨s1.T,s1.F,true⟩):=hd (by unfold Sp.St.table;dsimp only;rw[if_pos hl0,<-oK.o]);clear hl0
  go_wp2_with fail
  refine⟨_,results_none rfl _ _ _,rfl,qV,qW,M1.o.set 13 _,?_⟩;rw[HE.o];exact eC H1.o true
 ·have g0:((l.length:Int)==0)=false:=by simpa using hl0
  obtain⟨nl,hnl⟩: ∃nl:Nat,l.length=nl+1:=⟨l.length-1,by omega⟩;have ahc:(nl:Int)<=1000000:=by have:=K4.o;omega
  obtain⟨ad,hA,hc⟩:=Kd.fQ Ou.o.reads (nl:Int) (by omega) (by omega);subst hA;rw[dF]at hc;obtain⟨x,hx⟩:=ex (rd l (nl:Int));rw[<-hx]at hc;obtain⟨UU,UW⟩:=Ws.o nl (by omega);rw[<-hx]at UU UW;obtain⟨f,hf⟩:=ex (s1.at x);have Ac:Hid (∀n,Calls prog 149 #[.pointer (some ⟨g,0,none⟩),.int .i64 x] (W1.drewN n) (Og g base (W1.drewN n) qV qW f)):=hd (fun n=>hf▸rS (W1.drewN n) base g D fx s1 qV qW (bT H1.o n) AW.o x UU (by rw[L4.o];exact UW));have HTB:=hd (show s.table l=if(s1.labels (Sp.label f).length l).2 then((s1.labels (Sp.label f).length l).1.pop (Sp.label f)).die else(s1.labels (Sp.label f).length l).1 from by unfold Sp.St.table;dsimp only;rw[if_neg (by omega),<-oK.o,show((l.length:Int)-1)=(nl:Int) by omega,<-hx,<-hf]);have Dl:=hd hx;have Ia:=hd hf;have WA:=hd hnl;have hw1:wrap64 ((nl:Int)+1-1)=(nl:Int):=by rw[Int.add_sub_cancel];exact Tx.xR (by omega) (by omega)
  have hw2:wrap64 (nl:Int)=(nl:Int):=Tx.xR (by omega) (by omega);have hwi:IntKind.i64.wrap (nl:Int)=(nl:Int):=(Aw _).trans hw2;have hj0:(0:Int)<=(nl:Int):=by omega
  have hj1:(nl:Int)<(nl:Int)+1:=by omega
  rw[hnl]at g0⊢;have HF8:=hd (show(Sp.label f).length<=8 from by have h:=HEQ.o ((s.F.length:Int)-1-x) (by omega) (by omega);rw[hf];unfold Sp.label Sp.St.at;rw[L4.o];split;exact h.1;exact h.2);clear hx hf hl0 UU UW hnl
  go_wp2_with fail
  refine st 10 (fun w'=>w'.cell? ⟨bs,0,none⟩=some (.pointer (some ⟨g,0,none⟩))/\w'.cell? (ad.add nl)=some (.int .i64 x)) [] ⟨tb,hc⟩ (fun ag=>?_);refine tk 0 21 ag ?_;refine cZ 1 22 2 23 3 24 ?_;refine pu2 4 25 5 26 ?_;refine tk 6 27 ag ?_;refine on 7 (some 28) (fun K hK=>?_);refine om func149 (by kernel_rfl) rfl #[.pointer (some ⟨g,0,none⟩),.int .i64 x] (by rfl) rfl rfl (by simp only[List.map_toArray,List.map_cons,List.map_nil];rfl) ?_;refine(Ac.o 1).mono ?_;rintro e W2⟨u1,u2,rfl,hb2,r1,r2⟩;obtain⟨A1,c1,rfl⟩:=Kd.ai r1;obtain⟨A2,c2,rfl⟩:=Kd.ai r2;have bw:=hd hb2;have iK:=hd r1;have ia:=hd r2;clear hb2 r1 r2;refine⟨_,rfl,?_⟩;refine hK.o _ _ (by obtain⟨s0,s1⟩:=ag;exact⟨(bw.o.cell (aR _ _ s0)).trans s0,(bw.o.cell (aR _ _ s1)).trans s1⟩) (fun ag=>?_);clear hK K;refine nm ?_;have rl:bl W2 base (fun k=>k≠g/\some k≠qV.ownBlock/\some k≠qW.ownBlock) (if f.f0=3 then .slice A1 f.f1.f0.length c1 else .slice A2 f.f1.f1.length c2) (Sp.label f):=by unfold Sp.label;split;exact iK.o;exact ia.o
  obtain⟨Pl,kl,hvl⟩:=Kd.ai rl;rw[hvl]at rl;have Gq:Hid (∀W,Calls prog 150 #[.agg #[.int .i64 f.f0,.slice A1 f.f1.f0.length c1,.slice A2 f.f1.f1.length c2,.int .i64 f.f2,.bool f.f3]] W (zB (.slice Pl (Sp.label f).length kl) W)):=hd (fun W=>by have:=nN f.f0 A1 A2 f.f1.f0.length f.f1.f1.length c1 c2 f.f2 f.f3 W;rw[hvl]at this;exact this);have RL:=hd rl;clear rl hvl;refine on 8 (some 29) (fun K hK=>?_);refine om func150 (by kernel_rfl) rfl #[.agg #[.int .i64 f.f0,.slice A1 f.f1.f0.length c1,.slice A2 f.f1.f1.length c2,.int .i64 f.f2,.bool f.f3]] (by rfl) rfl rfl (by simp only[List.map_toArray,List.map_cons,List.map_nil];rfl) ?_;refine(Gq.o _).mono ?_;rintro e W3⟨rfl,hb3⟩;have cC:=hd hb3;clear hb3;refine⟨_,rfl,?_⟩;refine hK.o _ _ (by obtain⟨s0,s1⟩:=ag;exact⟨(cC.o.cell (aR _ _ s0)).trans s0,(cC.o.cell (aR _ _ s1)).trans s1⟩) (fun ag=>?_);clear hK K;refine nm ?_;refine pu 9 4 ?_;refine dn ?_;have hb4:Below W1.heap.size W1 W3:=aA (aA (aX (ay _ _)) (by simp) bw.o) (by have:=bw.o.size;simpa using this) cC.o;have H3:=hd (aY H1.o hb4);have M3:=hd (M1.o.trans (Mv.bF hb4));have Z3:=hd ((hb4.block bs (aj Z1.o)).trans Z1.o);have WB:=hd (Ou.o.then ⟨hb4.os,hb4.tape,hb4.output,hb4.size,fun k hk=>hb4.block k (by have:=ki.o;have:=M1.o.size;omega)⟩);have RL3:=hd (Kd.cM RL.o cC.o);clear hb4 tb hc
  go_wp2_with fail
  refine wp_loop (fun a W=> ∃(k:Nat) (sk:Sp.St) (dI eG:Value) (Ds:List Nat) (u:Nat->Value),a= {tmps:=#[.pointer (some ⟨g,0,none⟩),.slice (some ad) (nl+1) cA,.pointer (some ⟨bs,0,none⟩),u 3,.slice Pl (Sp.label f).length kl,u 5,u 6,u 7,u 8,u 9,u 10,u 11,u 12,u 13,u 14,u 15,u 16,u 17,u 18,u 19,u 20,u 21,u 22,u 23,u 24,u 25,u 26,u 27,u 28,u 29,.slice (some ad) (nl+1) cA,.int .i64 ((nl:Int)+1),.int .i64 (k:Int),u 33,u 34,u 35,u 36,u 37,u 38,u 39,u 40,u 41,u 42,u 43,u 44,u 45,u 46,u 47,u 48,u 49,u 50,u 51,u 52,u 53,u 54,u 55,u 56,u 57,u 58,u 59,u 60,u 61,u 62,u 63,u 64,u 65,u 66,u 67,u 68,u 69,u 70,u 71,u 72,u 73,u 74,u 75,u 76,u 77,u 78,u 79,u 80,u 81,u 82],defers:=Ds.map mark}/\k<=nl+1/\Hid (aJ W base g D fx sk dI eG)/\Hid (Sp.cq sk)/\Hid (sk.F=s.F)/\Hid (sk.T.length<=s.T.length+8)/\Hid (Mv g w W vT vF dI eG)/\Hid (W.heap[bs]? =some (.cells #[.pointer (some ⟨g,0,none⟩)] 104 (0,0)))/\Hid (bs≠g/\some bs≠dI.ownBlock/\some bs≠eG.ownBlock)/\Hid (gO base W (some ad) l)/\Hid (bl W base (fun k=>k≠g/\some k≠dI.ownBlock/\some k≠eG.ownBlock) (.slice Pl (Sp.label f).length kl) (Sp.label f))/\Hid (mG W w.heap.size Ds)/\Hid (s1.labels (Sp.label f).length l=sk.labels (Sp.label f).length (l.drop k))) (fun a _=>match a.tmps[32]? with|some v=>nl+1-(intOf v).toNat|none=>0) ?_ ?_
  ·exact⟨0,s1,qV,qW,[],(fun i=>(#[undef,undef,undef,undef,undef,undef,undef,undef,undef,undef,undef,undef,.pointer (some ⟨g,0,none⟩),.slice (some ⟨bs+1,0,none⟩) 1 1,.tuple #[],.slice (some ad) (nl+1) cA,.int .i64 ((nl:Int)+1),.bool ((nl:Int)+1==0),undef,undef,undef,.pointer (some ⟨g,0,none⟩),.slice (some ad) (nl+1) cA,.slice (some ad) (nl+1) cA,.int .i64 ((nl:Int)+1),.int .i64 (nl:Int),.pointer (some (ad.add nl)),.int .i64 x,.agg #[.int .i64 f.f0,.slice A1 f.f1.f0.length c1,.slice A2 f.f1.f1.length c2,.int .i64 f.f2,.bool f.f3],.slice Pl (Sp.label f).length kl,undef,undef,undef,undef,undef,undef,undef,undef,undef,undef,undef,undef,undef,undef,undef,undef,undef,undef,undef,undef,undef,undef,undef,undef,undef,undef,undef,undef,undef,undef,undef,undef,undef,undef,undef,undef,undef,undef,undef,undef,undef,undef,undef,undef,undef,undef,undef,undef,undef,undef,undef,undef,undef]:Array Value).getD i undef),rfl,by omega,H3,AW,L4,hd (by have:=HT1.o;omega),M3,Z3,BS1,WB,RL3,hd ⟨List.nodup_nil,fun D h=>by cases h⟩,hd rfl⟩
  ·intro a W hI
   obtain⟨k,sk,Ov,Dr,Ds,u,rfl,hk,WC,WD,HFk,HTk,HMk,WE,Qh,HLk,HRk,HDk,HEk⟩:=hI;clear H3 M3 Z3 WB RL3;have tb:=(aa WE.o 0).trans rfl;by_cases bI:k<nl+1
   ·have qd:(k:Int)<(nl:Int)+1:=by omega
    obtain⟨Tb,hA,hc⟩:=Kd.fQ HLk.o.reads (k:Int) (by omega) (by have:=WA.o;omega);obtain rfl:Tb=ad:=by cases hA;rfl
    clear hA;rw[dF]at hc;obtain⟨x2,hx2⟩:=ex (rd l (k:Int));rw[<-hx2]at hc;obtain⟨UU,UW⟩:=Ws.o k (by have:=WA.o;omega);rw[<-hx2]at UU UW;obtain⟨f2,hf2⟩:=ex (sk.at x2);have acF:Hid (Calls prog 149 #[.pointer (some ⟨g,0,none⟩),.int .i64 x2] W (Og g base W Ov Dr f2)):=hd (hf2▸rS W base g D fx sk Ov Dr WC.o WD.o x2 UU (by rw[HFk.o];exact UW));have ep:=hd hx2;have Md:=hd hf2;have Qi:=hd (show(Sp.label f2).length<=8 from by have h:=HEQ.o ((s.F.length:Int)-1-x2) (by omega) (by omega);rw[hf2];unfold Sp.label Sp.St.at;rw[HFk.o];split;exact h.1;exact h.2);clear hx2 hf2 UU UW
    go_wp2_with fail
    refine acF.o.mono ?_;rintro e W4⟨u1,u2,rfl,hb4,r1,r2⟩;obtain⟨B1,d1,rfl⟩:=Kd.ai r1;obtain⟨B2,d2,rfl⟩:=Kd.ai r2;have rl:bl W4 base (fun k=>k≠g/\some k≠Ov.ownBlock/\some k≠Dr.ownBlock) (if f2.f0=3 then .slice B1 f2.f1.f0.length d1 else .slice B2 f2.f1.f1.length d2) (Sp.label f2):=by unfold Sp.label;split;exact r1;exact r2
    obtain⟨Pt,kt,hvl⟩:=Kd.ai rl;rw[hvl]at rl;have acG:Hid (∀W,Calls prog 150 #[.agg #[.int .i64 f2.f0,.slice B1 f2.f1.f0.length d1,.slice B2 f2.f1.f1.length d2,.int .i64 f2.f2,.bool f2.f3]] W (zB (.slice Pt (Sp.label f2).length kt) W)):=hd (fun W=>by have:=nN f2.f0 B1 B2 f2.f1.f0.length f2.f1.f1.length d1 d2 f2.f2 f2.f3 W;rw[hvl]at this;exact this);have Yi:=hd rl;have bP:=hd hb4;clear rl hvl r1 r2 hb4
    go_wp2_with fail
    refine(acG.o _).mono ?_;rintro e W5⟨rfl,xZ⟩;have hb:=aA bP.o bP.o.size xZ;have H5:=hd (aY WC.o hb);have M5:=hd (HMk.o.trans (Mv.bF hb));have Z5:=hd ((hb.block bs (aj WE.o)).trans WE.o);have RV:=hd (HLk.o.then ⟨hb.os,hb.tape,hb.output,hb.size,fun k hk=>hb.block k (by have:=ki.o;have:=HMk.o.size;omega)⟩);have RT5:=hd (Kd.cM Yi.o xZ);have WG:=hd (Kd.cM HRk.o hb);have HD5:=hd (td HDk.o (fun k o hk ho=>(hb.block k (Array.getElem?_eq_some_iff.1 hk).1).trans hk));have tb5:=(aa Z5.o 0).trans rfl;clear hb xZ tb hc HRk HDk HLk WE HMk WC;by_cases hne:(Sp.label f2).length=(Sp.label f).length
    ·have acI:(((Sp.label f2).length:Int) !=((Sp.label f).length:Int))=false:=by rw[hne];simp
     have EF:=hd hne;clear hne
     go_wp2_with fail
     refine(callsIn_wide.1 (Bk.CY Fence.wide 3 trivial rfl _ _ _ _)).mono ?_;rintro e w'⟨rfl,rfl⟩;obtain⟨b,hb0,hbg,hH⟩:=Oq (fO H5.o RT5.o) (aj Z5.o) Qh.o;have hT5:=(aV H5.o).2.1;have hF5:=(aV H5.o).2.2;have hg5:=(aV H5.o).1;have h0:aJ ((W5.alloc (.cells #[.slice none 0 0] 23)).alloc (.cells #[.slice Pt (Sp.label f2).length kt] 23)) base g D fx sk Ov Dr:=aI (aI H5.o _) _;have hf0:iG ((W5.alloc (.cells #[.slice none 0 0] 23)).alloc (.cells #[.slice Pt (Sp.label f2).length kt] 23)) base (fun k=>(k≠g/\some k≠Ov.ownBlock)/\k<W5.heap.size) Dr sk.F:=Kd.aZ (Kd.aZ (Kd.bQ (Kd.fW H5.o.2.2.2.2.2.1) (fun k hk=>⟨hk.1,hk.2.2.1⟩)) _) _;have x1:((W5.alloc (.cells #[.slice none 0 0] 23)).alloc (.cells #[.slice Pt (Sp.label f2).length kt] 23)).heap[W5.heap.size]? =some (.cells #[.slice none 0 0] 23 (0,0)):=bh (dh W5 _) _;have x2':((W5.alloc (.cells #[.slice none 0 0] 23)).alloc (.cells #[.slice Pt (Sp.label f2).length kt] 23)).heap[W5.heap.size+1]? =some (.cells #[.slice Pt (Sp.label f2).length kt] 23 (0,0)):=by have:=dh (W5.alloc (.cells #[.slice none 0 0] 23)) (.cells #[.slice Pt (Sp.label f2).length kt] 23);simpa using this
     have x3:((W5.alloc (.cells #[.slice none 0 0] 23)).alloc (.cells #[.slice Pt (Sp.label f2).length kt] 23)).heap.size=W5.heap.size+2:=by simp
     have x4:Bk.Holds ((W5.alloc (.cells #[.slice none 0 0] 23)).alloc (.cells #[.slice Pt (Sp.label f2).length kt] 23)) b (.slice Pt (Sp.label f2).length kt) (Sp.label f2):=by rcases hH with h|⟨off,cap,e,hc⟩;exact .inl h;exact .inr ⟨off,cap,e,fun j hj=>ak (ak (hc j hj))⟩
     have x5: ∀k,k<W5.heap.size->((W5.alloc (.cells #[.slice none 0 0] 23)).alloc (.cells #[.slice Pt (Sp.label f2).length kt] 23)).heap[k]? =W5.heap[k]? :=fun k hk=>(Below.heap_alloc _ _ k (by simp;omega)).trans (Below.heap_alloc _ _ k hk)
     have x6:((W5.alloc (.cells #[.slice none 0 0] 23)).alloc (.cells #[.slice Pt (Sp.label f2).length kt] 23)).os=W5.os/\((W5.alloc (.cells #[.slice none 0 0] 23)).alloc (.cells #[.slice Pt (Sp.label f2).length kt] 23)).tape=W5.tape/\((W5.alloc (.cells #[.slice none 0 0] 23)).alloc (.cells #[.slice Pt (Sp.label f2).length kt] 23)).output=W5.output:=⟨rfl,rfl,rfl⟩;have hI0:JA W5 base g D fx sk Ov Dr (.slice Pt (Sp.label f2).length kt) [] ((W5.alloc (.cells #[.slice none 0 0] 23)).alloc (.cells #[.slice Pt (Sp.label f2).length kt] 23)):=⟨Ov,.slice none 0 0,rfl,x6.1,x6.2.1,x6.2.2,by omega,fun k hk _=>x5 k hk,h0,hf0,⟨rfl,.inl ⟨rfl,rfl⟩⟩,x1,x2'⟩;have c9:=(aa x2' 0).trans rfl;have JB:=hd hT5;have HF5:=hd hF5;have Gl:=hd hg5;have cn:=hd hb0;have HBG:=hd hbg;clear h0 hf0 x1 x2' x5 x6 hH hT5 hF5 hg5 tb5;generalize ((W5.alloc (.cells #[.slice none 0 0] 23)).alloc (.cells #[.slice Pt (Sp.label f2).length kt] 23))=W0 at hI0 c9 x3 x4⊢
     go_wp2_with fail
     refine(wpIn_wide (n:=4)).1 ?_
     refine wpIn_rangeFunc_ownG rfl (by omega) (gf:=220) (lb:=#[.pointer (some ⟨W5.heap.size+1,0,none⟩)]) rfl trivial (enters_of func220 (by kernel_rfl) rfl)
      (Bk.sX Fence.wide (4-1) trivial rfl (by omega) (W5.heap.size+1) b _ (Sp.label f2) (by have:=Qi.o;omega) W0 (by omega) (by omega) c9 x4) CZ (C8 (by omega) (by omega)) (ay _ _) (fun _=>rfl)
      (JA W5 base g D fx sk Ov Dr (.slice Pt (Sp.label f2).length kt)) (fun _ _ _=>False) (K1 (by omega) JB.o Gl.o) (fun _ _ _ _ _ hs _ _=>hs) hI0
      (fun y=> {tmps:=#[.pointer (some ⟨g,0,none⟩),.slice (some Tb) (nl+1) cA,.pointer (some ⟨bs,0,none⟩),u 3,.slice Pl (Sp.label f).length kl,u 5,.int .i64 x2,.slice Pt (Sp.label f2).length kt,.pointer (some ⟨W5.heap.size,0,none⟩),u 9,.int .i64 y.2,u 11,u 12,u 13,u 14,u 15,u 16,u 17,u 18,u 19,u 20,u 21,u 22,u 23,u 24,u 25,u 26,u 27,u 28,u 29,.slice (some Tb) (nl+1) cA,.int .i64 ((nl:Int)+1),.int .i64 (k:Int),.bool true,.pointer (some (Tb.add k)),.int .i64 x2,.pointer (some ⟨g,0,none⟩),.int .i64 x2,.agg #[.int .i64 f2.f0,.slice B1 f2.f1.f0.length d1,.slice B2 f2.f1.f1.length d2,.int .i64 f2.f2,.bool f2.f3],.slice Pt (Sp.label f2).length kt,.slice Pt (Sp.label f2).length kt,.int .i64 ((Sp.label f2).length:Int),.slice Pl (Sp.label f).length kl,.int .i64 ((Sp.label f).length:Int),.bool false,u 45,u 46,u 47,.slice Pt (Sp.label f2).length kt,.func (.func 220) #[] #[.pointer (some ⟨W5.heap.size+1,0,none⟩)],.int .i64 y.1,.int .i64 y.2,u 52,u 53,u 54,u 55,u 56,u 57,u 58,u 59,u 60,u 61,u 62,u 63,u 64,u 65,u 66,u 67,u 68,u 69,u 70,u 71,u 72,u 73,u 74,u 75,u 76,u 77,u 78,u 79,u 80,u 81,u 82],defers:= []}) ?assign ?body ?done ?stop
     case assign=>
      intro l1 y W' K hK
      gi_wp2
      exact hK
     case body=>
      rintro lp pre y W'⟨dI,v8,e1,e2,e3,e4,e5,e6,hS,hF,ho,gG,hb2⟩hpre;have tbb:=(aa ((e6 bs (aj Z5.o) Qh.o.1).trans Z5.o) 0).trans rfl;have acL:=hd (E4 W' base g D fx (looked sk pre).1 dI Dr hS (pI WD.o pre));have HS:=hd hS;have HF:=hd hF;have HO:=hd ho;have ni:=hd gG;have bw:=hd hb2;have Yj:=hd e6;have xq:=hd e5;have Fg:=hd e1;have Me:=hd (And.intro e2 (And.intro e3 e4));clear hS hF ho gG hb2 e6 e1 e2 e3 e4
      gi_wp2
      refine⟨trivial,?_⟩;refine(CallsIn.inRound lp (callsIn_wide.2 acL.o)).mono ?_;rintro e W2⟨rfl,qu,et2,aw,h2⟩;have hgb:g≠W5.heap.size/\bs≠g:=⟨by have:=Gl.o;omega,Qh.o.1⟩;have tb2:=(aa ((aw.block bs hgb.2).trans ((Yj.o bs (aj Z5.o) hgb.2).trans Z5.o)) 0).trans rfl;have c13:=(aa h2.1 13).trans (dy h2.2.1 _ _ _);have f13:=ah h2.1 13;have Yk:=hd (show Boxed W2 W5.heap.size 23 v8 from(aw.block _ (Ne.symm hgb.1)).trans ni.o);have Uw:=hd (mR HO.o (fun k hk=>aw.block k (by have:=iN HO.o k hk;have:=Gl.o;omega)));have d8:=Yk.o.cell;have Tq:=Yk.o.lt;have HAW:=hd aw;have Ww:=hd h2;have HET:=hd et2;clear aw h2 et2;obtain⟨bb,ek⟩:=ex ((looked sk pre).1.any.2.bad);rw[<-ek]at c13;have cE:=hd ek;clear ek;obtain⟨ty,Ti⟩:=ex ((looked sk pre).1.any.1);rw[<-Ti];have UX:=hd Ti;clear Ti;have hgs:=hgb.1;cases bb with
      |true=>
       gi_wp2
       refine sti 17 (fun w'=>w'.cell? ⟨bs,0,none⟩=some (.pointer (some ⟨g,0,none⟩))/\w'.cell? ⟨g,13,none⟩=some (.bool true)) [16] ⟨tb2,c13⟩ (fun ag=>?_);refine tk 0 54 ag ?_;refine tk 1 55 ag ?_;refine pu2 2 56 3 57 ?_;refine tk 4 58 ag ?_;refine cZ 5 59 6 60 7 61 ?_;refine cZ 8 62 9 63 10 64 ?_;refine cZ 11 65 12 66 13 67 ?_;refine pu2 14 68 15 69 ?_;refine la 16 ?_;refine dn ?_;refine xY (w:=(W2.setCell ⟨g,13,none⟩ (.bool true)).drew) ?_;have h3:aJ (W2.setCell ⟨g,13,none⟩ (.bool true)).drew base g D fx (looked sk (pre++ [y])).1 qu Dr:=by rw[pJ sk pre y true (by rw[<-cE.o];rfl)];exact bT (eC Ww.o true) 1
       have zF:qZ g W' (W2.setCell ⟨g,13,none⟩ (.bool true)).drew:=(HAW.o.set 13 (.bool true)).drewN 1;have BJ:Hid ((W2.setCell ⟨g,13,none⟩ (.bool true)).drew.ownsRow W5.heap.size 3 1 v8 pre.length ((looked sk pre).2.map (Value.int .i64))):=hd (mR HO.o (fun k hk=>zF.block k (by have:=iN HO.o k hk;have:=Gl.o;omega)));have pK:=hd (show Boxed (W2.setCell ⟨g,13,none⟩ (.bool true)).drew W5.heap.size 23 v8 from(zF.block _ (Ne.symm hgs)).trans ni.o);have zG:(W2.setCell ⟨g,13,none⟩ (.bool true)).drew.heap.size=W'.heap.size:=zF.size;have d8:=pK.o.cell;have Tq:=pK.o.lt;have zH:=hd zF;have H3:=hd h3;have qY:=hd zG;clear zF h3 zG;generalize (W2.setCell ⟨g,13,none⟩ (.bool true)).drew=V3 at BJ pK zH H3 qY d8 Tq⊢;obtain⟨i0,hi,hz0,hz1,hz2⟩:=info_parts cQ
       gi_wp2_with (gi_at_builtin;refine wpListIn_append_own _ rfl _ _ 23 rfl W5.heap.size 3 i0 (.int .i64 0) 1 8 underlying23 hi hz0 hz1 hz2 rfl (by decide) _ _ _ rfl (BJ.o.alloc _) ⟨V3.heap.size,0,none⟩ 1 1 [.int .i64 ty] rfl rfl (cell_one_new _ _ _) (by simp[Value.oneCell']) (cG (show pre.length+1<=9 by have:=Qi.o;omega) (by decide)) (by have:=Qi.o;omega) (by have:=xq.o;have:=qY.o;simp;omega) ?_;intro v' w1 hown' hgrow _;obtain⟨g',cap',rfl⟩:=ownsRow_succ hown';obtain⟨FB,hv2,hr2,hk2,hb2⟩:=pK.o.appended (by decide) BJ.o (by have:=xq.o;have:=qY.o;omega) (aU _) hown' hgrow;have hc1:=FB.cell;have hf1:=FB.frozen)
       exact rT (b:=b) zH.o Fg.o HET.o Me.o.1 Me.o.2.1 Me.o.2.2 xq.o Yj.o Gl.o JB.o cn.o HBG.o (by omega) H3.o HF.o HO.o bw.o hgrow hv2 (by rw[<-UX.o];exact hr2) hk2 hb2
      |false=>
       by_cases e1:ty=0
       ·have g1:(ty !=0)=false:=by simp[e1]
        have HC:=hd e1;clear e1
        gi_wp2
        refine sti 17 (fun w'=>w'.cell? ⟨bs,0,none⟩=some (.pointer (some ⟨g,0,none⟩))/\w'.cell? ⟨g,13,none⟩=some (.bool false)) [16] ⟨tb2,c13⟩ (fun ag=>?_);refine tk 0 54 ag ?_;refine tk 1 55 ag ?_;refine pu2 2 56 3 57 ?_;refine tk 4 58 ag ?_;refine cZ 5 59 6 60 7 61 ?_;refine cZ 8 62 9 63 10 64 ?_;refine cZ 11 65 12 66 13 67 ?_;refine pu2 14 68 15 69 ?_;refine la 16 ?_;refine dn ?_;refine xY (w:=(W2.setCell ⟨g,13,none⟩ (.bool false)).drew) ?_;have h3:aJ (W2.setCell ⟨g,13,none⟩ (.bool false)).drew base g D fx (looked sk (pre++ [y])).1 qu Dr:=by rw[pJ sk pre y false (by rw[<-cE.o,<-UX.o,HC.o];rfl)];exact bT (eC Ww.o false) 1
        have zF:qZ g W' (W2.setCell ⟨g,13,none⟩ (.bool false)).drew:=(HAW.o.set 13 (.bool false)).drewN 1;have BJ:Hid ((W2.setCell ⟨g,13,none⟩ (.bool false)).drew.ownsRow W5.heap.size 3 1 v8 pre.length ((looked sk pre).2.map (Value.int .i64))):=hd (mR HO.o (fun k hk=>zF.block k (by have:=iN HO.o k hk;have:=Gl.o;omega)));have pK:=hd (show Boxed (W2.setCell ⟨g,13,none⟩ (.bool false)).drew W5.heap.size 23 v8 from(zF.block _ (Ne.symm hgs)).trans ni.o);have zG:(W2.setCell ⟨g,13,none⟩ (.bool false)).drew.heap.size=W'.heap.size:=zF.size;have d8:=pK.o.cell;have Tq:=pK.o.lt;have zH:=hd zF;have H3:=hd h3;have qY:=hd zG;clear zF h3 zG;generalize (W2.setCell ⟨g,13,none⟩ (.bool false)).drew=V3 at BJ pK zH H3 qY d8 Tq⊢;obtain⟨i0,hi,hz0,hz1,hz2⟩:=info_parts cQ
        gi_wp2_with (gi_at_builtin;refine wpListIn_append_own _ rfl _ _ 23 rfl W5.heap.size 3 i0 (.int .i64 0) 1 8 underlying23 hi hz0 hz1 hz2 rfl (by decide) _ _ _ rfl (BJ.o.alloc _) ⟨V3.heap.size,0,none⟩ 1 1 [.int .i64 ty] rfl rfl (cell_one_new _ _ _) (by simp[Value.oneCell']) (cG (show pre.length+1<=9 by have:=Qi.o;omega) (by decide)) (by have:=Qi.o;omega) (by have:=xq.o;have:=qY.o;simp;omega) ?_;intro v' w1 hown' hgrow _;obtain⟨g',cap',rfl⟩:=ownsRow_succ hown';obtain⟨FB,hv2,hr2,hk2,hb2⟩:=pK.o.appended (by decide) BJ.o (by have:=xq.o;have:=qY.o;omega) (aU _) hown' hgrow;have hc1:=FB.cell;have hf1:=FB.frozen)
        exact rT (b:=b) zH.o Fg.o HET.o Me.o.1 Me.o.2.1 Me.o.2.2 xq.o Yj.o Gl.o JB.o cn.o HBG.o (by omega) H3.o HF.o HO.o bw.o hgrow hv2 (by rw[<-UX.o];exact hr2) hk2 hb2
       ·have g1:(ty !=0)=true:=by simpa using e1
        by_cases e2:ty=y.2
        ·have g2:(ty !=y.2)=false:=by simp[e2]
         have HC:=hd e2;clear e1 e2
         gi_wp2
         refine sti 17 (fun w'=>w'.cell? ⟨bs,0,none⟩=some (.pointer (some ⟨g,0,none⟩))/\w'.cell? ⟨g,13,none⟩=some (.bool false)) [16] ⟨tb2,c13⟩ (fun ag=>?_);refine tk 0 54 ag ?_;refine tk 1 55 ag ?_;refine pu2 2 56 3 57 ?_;refine tk 4 58 ag ?_;refine cZ 5 59 6 60 7 61 ?_;refine cZ 8 62 9 63 10 64 ?_;refine cZ 11 65 12 66 13 67 ?_;refine pu2 14 68 15 69 ?_;refine la 16 ?_;refine dn ?_;refine xY (w:=(W2.setCell ⟨g,13,none⟩ (.bool false)).drew) ?_;have h3:aJ (W2.setCell ⟨g,13,none⟩ (.bool false)).drew base g D fx (looked sk (pre++ [y])).1 qu Dr:=by rw[pJ sk pre y false (by rw[<-cE.o,<-UX.o,HC.o];simp)];exact bT (eC Ww.o false) 1
         have zF:qZ g W' (W2.setCell ⟨g,13,none⟩ (.bool false)).drew:=(HAW.o.set 13 (.bool false)).drewN 1;have BJ:Hid ((W2.setCell ⟨g,13,none⟩ (.bool false)).drew.ownsRow W5.heap.size 3 1 v8 pre.length ((looked sk pre).2.map (Value.int .i64))):=hd (mR HO.o (fun k hk=>zF.block k (by have:=iN HO.o k hk;have:=Gl.o;omega)));have pK:=hd (show Boxed (W2.setCell ⟨g,13,none⟩ (.bool false)).drew W5.heap.size 23 v8 from(zF.block _ (Ne.symm hgs)).trans ni.o);have zG:(W2.setCell ⟨g,13,none⟩ (.bool false)).drew.heap.size=W'.heap.size:=zF.size;have d8:=pK.o.cell;have Tq:=pK.o.lt;have zH:=hd zF;have H3:=hd h3;have qY:=hd zG;clear zF h3 zG;generalize (W2.setCell ⟨g,13,none⟩ (.bool false)).drew=V3 at BJ pK zH H3 qY d8 Tq⊢;obtain⟨i0,hi,hz0,hz1,hz2⟩:=info_parts cQ
         gi_wp2_with (gi_at_builtin;refine wpListIn_append_own _ rfl _ _ 23 rfl W5.heap.size 3 i0 (.int .i64 0) 1 8 underlying23 hi hz0 hz1 hz2 rfl (by decide) _ _ _ rfl (BJ.o.alloc _) ⟨V3.heap.size,0,none⟩ 1 1 [.int .i64 ty] rfl rfl (cell_one_new _ _ _) (by simp[Value.oneCell']) (cG (show pre.length+1<=9 by have:=Qi.o;omega) (by decide)) (by have:=Qi.o;omega) (by have:=xq.o;have:=qY.o;simp;omega) ?_;intro v' w1 hown' hgrow _;obtain⟨g',cap',rfl⟩:=ownsRow_succ hown';obtain⟨FB,hv2,hr2,hk2,hb2⟩:=pK.o.appended (by decide) BJ.o (by have:=xq.o;have:=qY.o;omega) (aU _) hown' hgrow;have hc1:=FB.cell;have hf1:=FB.frozen)
         exact rT (b:=b) zH.o Fg.o HET.o Me.o.1 Me.o.2.1 Me.o.2.2 xq.o Yj.o Gl.o JB.o cn.o HBG.o (by omega) H3.o HF.o HO.o bw.o hgrow hv2 (by rw[<-UX.o];exact hr2) hk2 hb2
        ·have g2:(ty !=y.2)=true:=by simpa using e2
         have HC:=hd (And.intro e1 e2);clear e1 e2
         gi_wp2
         refine sti 17 (fun w'=>w'.cell? ⟨bs,0,none⟩=some (.pointer (some ⟨g,0,none⟩))/\w'.cell? ⟨g,13,none⟩=some (.bool false)) [16] ⟨tb2,c13⟩ (fun ag=>?_);refine tk 0 54 ag ?_;refine tk 1 55 ag ?_;refine pu2 2 56 3 57 ?_;refine tk 4 58 ag ?_;refine cZ 5 59 6 60 7 61 ?_;refine cZ 8 62 9 63 10 64 ?_;refine cZ 11 65 12 66 13 67 ?_;refine pu2 14 68 15 69 ?_;refine la 16 ?_;refine dn ?_;refine xY (w:=(W2.setCell ⟨g,13,none⟩ (.bool true)).drew) ?_;have h3:aJ (W2.setCell ⟨g,13,none⟩ (.bool true)).drew base g D fx (looked sk (pre++ [y])).1 qu Dr:=by rw[pJ sk pre y true (by rw[<-cE.o,<-UX.o];simp[HC.o.1,HC.o.2])];exact bT (eC Ww.o true) 1
         have zF:qZ g W' (W2.setCell ⟨g,13,none⟩ (.bool true)).drew:=(HAW.o.set 13 (.bool true)).drewN 1;have BJ:Hid ((W2.setCell ⟨g,13,none⟩ (.bool true)).drew.ownsRow W5.heap.size 3 1 v8 pre.length ((looked sk pre).2.map (Value.int .i64))):=hd (mR HO.o (fun k hk=>zF.block k (by have:=iN HO.o k hk;have:=Gl.o;omega)));have pK:=hd (show Boxed (W2.setCell ⟨g,13,none⟩ (.bool true)).drew W5.heap.size 23 v8 from(zF.block _ (Ne.symm hgs)).trans ni.o);have zG:(W2.setCell ⟨g,13,none⟩ (.bool true)).drew.heap.size=W'.heap.size:=zF.size;have d8:=pK.o.cell;have Tq:=pK.o.lt;have zH:=hd zF;have H3:=hd h3;have qY:=hd zG;clear zF h3 zG;generalize (W2.setCell ⟨g,13,none⟩ (.bool true)).drew=V3 at BJ pK zH H3 qY d8 Tq⊢;obtain⟨i0,hi,hz0,hz1,hz2⟩:=info_parts cQ
         gi_wp2_with (gi_at_builtin;refine wpListIn_append_own _ rfl _ _ 23 rfl W5.heap.size 3 i0 (.int .i64 0) 1 8 underlying23 hi hz0 hz1 hz2 rfl (by decide) _ _ _ rfl (BJ.o.alloc _) ⟨V3.heap.size,0,none⟩ 1 1 [.int .i64 ty] rfl rfl (cell_one_new _ _ _) (by simp[Value.oneCell']) (cG (show pre.length+1<=9 by have:=Qi.o;omega) (by decide)) (by have:=Qi.o;omega) (by have:=xq.o;have:=qY.o;simp;omega) ?_;intro v' w1 hown' hgrow _;obtain⟨g',cap',rfl⟩:=ownsRow_succ hown';obtain⟨FB,hv2,hr2,hk2,hb2⟩:=pK.o.appended (by decide) BJ.o (by have:=xq.o;have:=qY.o;omega) (aU _) hown' hgrow;have hc1:=FB.cell;have hf1:=FB.frozen)
         exact rT (b:=b) zH.o Fg.o HET.o Me.o.1 Me.o.2.1 Me.o.2.2 xq.o Yj.o Gl.o JB.o cn.o HBG.o (by omega) H3.o HF.o HO.o bw.o hgrow hv2 (by rw[<-UX.o];exact hr2) hk2 hb2
     case done=>
      rintro Dq pre W8 hDq hpre⟨WH,v8,e1,e2,e3,e4,e5,e6,hS,hF,ho,gG,hb2⟩hDm;have hlk:looked sk pre=sk.look (Sp.label f2):=by rw[hpre];exact pH sk _
      have hpl:pre.length=(Sp.label f2).length:=by rw[hpre];simp[Bk.upto]
      have m8:Mv g W5 W8 Ov Dr WH Dr:=⟨e2,e3,e4,by omega,fun k hk hg _ _=>e6 k hk hg,fun k hk=> .inl (e1▸hk),fun _ h=> .inl h⟩;have Z8:=(e6 bs (aj Z5.o) Qh.o.1).trans Z5.o;have WI:=hd (show bs≠g/\some bs≠WH.ownBlock/\some bs≠Dr.ownBlock from⟨Qh.o.1,by rw[e1];exact Qh.o.2.1,Qh.o.2.2⟩);have RZ:=hd (RV.o.then (kD H5.o m8 (by have:=ki.o;have:=M5.o.size;omega)));have RL8:=hd (lu WG.o m8 (fun _ h=>h))
      have hd8:mG W8 w.heap.size (Dq::Ds):=by
       have hm:=uG H5.o m8 HD5.o;refine⟨List.nodup_cons.2 ⟨fun hc=>?_,hm.1⟩,fun D' Yh=>?_⟩
       ·have:=(Array.getElem?_eq_some_iff.1 (HD5.o.2 Dq hc).2).1;omega
       ·rcases List.mem_cons.1 Yh with rfl|h
        ·exact⟨by have:=M5.o.size;omega,hDm⟩
        ·exact hm.2 D' h
      have HD8:=hd hd8;have HA8:Hid (nh W8 g WH Dr v8 (looked sk pre).2):=hd (RY (n₀:=W5.heap.size) (by rw[th];exact ho) Gl.o (fun k hk=>JB.o k (e1▸hk)) HF5.o (by omega));have HI8:=hd (pI WD.o pre)
      have ht8:(looked sk pre).1.T.length+(looked sk pre).2.length<=s.T.length+8:=by
       have h:=(Fy WD.o pre).1;have ht:=Sp.zy AW.o;have e:sk.top=s1.top:=by unfold Sp.St.top;rw[HFk.o,L4.o]
       rw[th];rw[e]at h;have h1:=HTk.o;have h2:=HT1.o;have h3:=Qi.o;omega
      have tD:=hd ht8;have tb8:=(aa Z8 0).trans rfl;have d8:=gG.cell;have M8:=hd (M5.o.trans m8);have H8:=hd hS;have HZ8:=hd Z8;have HLK:=hd hlk;clear hd8 ht8 m8 hF ho hb2 hDm e6 e2 e3 e4 e1 gG Z8 hS hlk hpre hpl;have pZ:k+1<=nl+1:=by omega
      have Wp:k<l.length:=by have:=WA.o;omega
      have hp9:=HV HI8.o (looked sk pre).2.reverse (by have:=tD.o;simp;omega);have HPT:Hid (((looked sk pre).1.back (looked sk pre).2).T.length<=s.T.length+8):=hd (by have:=tD.o;simp[Sp.St.back,Sp.St.push];omega);have hmu:nl+1-(k+1)<nl+1-k:=by omega
      have hnn: ¬(Sp.label f2).length≠(Sp.label f).length:=by have:=EF.o;omega
      have BP:Hid (s1.labels (Sp.label f).length l=((looked sk pre).1.back (looked sk pre).2).labels (Sp.label f).length (l.drop (k+1))):=hd (by rw[HEk.o,wQ sk _ l k Wp,<-ep.o,<-Md.o,if_neg hnn,<-HLK.o]);have HMU:=hd hmu;have HP9:=hd hp9;have Ke:=hd pZ;clear pZ Wp hp9 hmu hnn;have hwk:wrap64 ((k:Int)+1)=((k+1:Nat):Int):=by rw[Tx.xR (by omega) (by have:=WA.o;omega)];omega
      have ahp:IntKind.i64.wrap ((k:Int)+1)=((k+1:Nat):Int):=(Aw _).trans hwk
      gi_wp2
      go_wp2_with fail
      refine(Da W8 base g D fx (looked sk pre).1 WH Dr v8 H8.o HI8.o (looked sk pre).2 HA8.o (by have:=tD.o;omega)).mono ?_;rintro e W9⟨rfl,vT9,vF9,m9,h9⟩;have Z9:=(m9.block bs (aj HZ8.o) WI.o.1 WI.o.2.1 WI.o.2.2).trans HZ8.o;have BS9:=hd (show bs≠g/\some bs≠vT9.ownBlock/\some bs≠vF9.ownBlock from⟨WI.o.1,fun e=>(m9.BG bs e.symm).elim (fun h=>WI.o.2.1 h.symm) (fun h=>by have:=aj HZ8.o;omega),fun e=>(m9.Ax bs e.symm).elim (fun h=>WI.o.2.2 h.symm) (fun h=>by have:=aj HZ8.o;omega)⟩);have HL9:=hd (RZ.o.then (kD H8.o m9 (by have:=ki.o;have:=M8.o.size;omega)));have RL9:=hd (lu RL8.o m9 (fun _ h=>h));have HD9:=hd (uG H8.o m9 HD8.o);have M9:=hd (M8.o.trans m9);have H9:=hd h9;have HZ9:=hd Z9;clear m9 h9 Z9 tb8 d8
      go_wp2_with fail
      refine⟨⟨k+1,(looked sk pre).1.back (looked sk pre).2,vT9,vF9,Dq::Ds,(fun i=>(#[u 0,u 1,u 2,u 3,u 4,u 5,.int .i64 x2,.slice Pt (Sp.label f2).length kt,.pointer (some ⟨W5.heap.size,0,none⟩),u 9,u 10,u 11,u 12,u 13,u 14,u 15,u 16,u 17,u 18,u 19,u 20,u 21,u 22,u 23,u 24,u 25,u 26,u 27,u 28,u 29,u 30,u 31,u 32,.bool true,.pointer (some (Tb.add k)),.int .i64 x2,.pointer (some ⟨g,0,none⟩),.int .i64 x2,.agg #[.int .i64 f2.f0,.slice B1 f2.f1.f0.length d1,.slice B2 f2.f1.f1.length d2,.int .i64 f2.f2,.bool f2.f3],.slice Pt (Sp.label f2).length kt,.slice Pt (Sp.label f2).length kt,.int .i64 ((Sp.label f2).length:Int),.slice Pl (Sp.label f).length kl,.int .i64 ((Sp.label f).length:Int),.bool false,u 45,u 46,u 47,.slice Pt (Sp.label f2).length kt,.func (.func 220) #[] #[.pointer (some ⟨W5.heap.size+1,0,none⟩)],u 50,u 51,u 52,u 53,u 54,u 55,u 56,u 57,u 58,u 59,u 60,u 61,u 62,u 63,u 64,u 65,u 66,u 67,u 68,u 69,u 70,u 71,u 72,u 73,.pointer (some ⟨g,0,none⟩),v8,.tuple #[],.int .i64 ((k+1:Nat):Int),u 78,u 79,u 80,u 81,u 82]:Array Value).getD i undef),rfl,Ke.o,H9,HP9,hd ((nk sk pre).trans HFk.o),HPT,M9,HZ9,BS9,HL9,RL9,HD9,BP⟩,?_⟩;rename_i x1 v1 q1 x2 v2 q2;have r1:Value.int .i64 ((k+1:Nat):Int)=v1:=Option.some.inj q1;have r2:Value.int .i64 (k:Int)=v2:=Option.some.inj q2;rw[<-r1,<-r2];exact HMU.o
     case stop=>
      rintro Dq cc pre W _ _ hf _;exact hf.elim
    ·have acI:(((Sp.label f2).length:Int) !=((Sp.label f).length:Int))=true:=by simp;omega
     have EF:=hd hne;clear hne;have c13:=(aa H5.o.1 13).trans (dy H5.o.2.1 _ _ _);have f13:=ah H5.o.1 13
     go_wp2_with fail
     show LeavesInM _ _ _ _ _ _ (Ds.map mark) .returning _
     refine pG (B:=w.heap.size) (fun W=> ∃dI eG,Mv g w W vT vF dI eG/\aJ W base g D fx (s.table l) dI eG) (fun W D o' ⟨t',f',m,h⟩ hD hk=>⟨t',f',m.other (grownBy_putObj' W D _) (fun r e=>by cases e;exact hD),mO h (grownBy_putObj' W D _) (fun r e=>by cases e;exact⟨_,hk,rfl⟩)⟩) (fun W ⟨t',f',m,h⟩=>⟨_,results_none rfl _ _ _,rfl,t',f',m,h⟩) Ds _ ⟨Ov,Dr,M5.o.set 13 (.bool true),?_⟩ ?_
     ·have e:s.table l=⟨sk.T,sk.F,true⟩:=by
       have e0:s1.labels (Sp.label f).length l=(⟨sk.T,sk.F,true⟩,false):=by rw[HEk.o,wQ sk _ l k (by have:=WA.o;omega),<-ep.o,<-Md.o,if_pos EF.o]
       rw[HTB.o,e0];rfl
      rw[e];exact eC H5.o true
     ·exact td HD5.o (fun k o hk ho=>(dX W5 ⟨g,13,none⟩ _ k (by intro e;subst e;rw[H5.o.1]at hk;cases hk;cases ho)).trans hk)
   ·have hge: ¬((k:Int)<(nl:Int)+1):=by omega
    go_wp2_with fail
    refine(gm W base g D fx sk Ov Dr _ WC.o WD.o (Sp.label f) (fO WC.o HRk.o) (by have:=HF8.o;omega)).mono ?_;rintro e W6⟨rfl,ri,rj,m6,h6⟩;have tb6:=(aa ((m6.block bs (aj WE.o) Qh.o.1 Qh.o.2.1 Qh.o.2.2).trans WE.o) 0).trans rfl;have HD6:=hd (uG WC.o m6 HDk.o);have M6:=hd (HMk.o.trans m6);have H6:=hd h6;have Qf:=hd (Sp.iA WD.o (Sp.label f));clear m6 h6 tb
    go_wp2_with fail
    refine(kZ W6 base g D fx _ ri rj H6.o Qf.o).mono ?_;rintro e W7⟨rfl,KY,KZ,m7,h7⟩;have HD7:=hd (uG H6.o m7 HD6.o);have M7:=hd (M6.o.trans m7);have H7:=hd h7;clear m7 h7
    go_wp2_with fail
    show LeavesInM _ _ _ _ _ _ (Ds.map mark) .returning _
    refine pG (B:=w.heap.size) (fun W=> ∃dI eG,Mv g w W vT vF dI eG/\aJ W base g D fx (s.table l) dI eG) (fun W D o' ⟨t',f',m,h⟩ hD hk=>⟨t',f',m.other (grownBy_putObj' W D _) (fun r e=>by cases e;exact hD),mO h (grownBy_putObj' W D _) (fun r e=>by cases e;exact⟨_,hk,rfl⟩)⟩) (fun W ⟨t',f',m,h⟩=>⟨_,results_none rfl _ _ _,rfl,t',f',m,h⟩) Ds _ ⟨KY,KZ,M7.o,?_⟩ ?_
    ·have e0:s1.labels (Sp.label f).length l=(sk,true):=by rw[HEk.o,List.drop_of_length_le (by have:=WA.o;omega)];rfl
     have e:s.table l=(sk.pop (Sp.label f)).die:=by rw[HTB.o,e0];rfl
     rw[e];exact H7.o
    ·exact HD7.o
end Go.Proofs.YthehihjcpiadgaaGreat
namespace Go.Proofs.YthehihjcpiadgaaGreat
open Go.RowKit Go.Proofs.Wz.PrintWords Go.Proofs.Wz.bM
theorem FC(w:World)(base g:Nat)(D:Nat->Prop)(fx:List Value)(s:Sp.St)(vT vF:Value)(h:aJ w base g D fx s vT vF)(hI:Sp.cq s)(hl:s.T.length+8<=1000000)(a b n:Int)(A:Option Addr)(l c:Nat)(k0:0<=a)(k1:a<s.F.length)(h8:(Sp.label (s.at a)).length<=8):Calls prog 94 #[.pointer (some ⟨g,0,none⟩),bX 12 a b n (.slice A l c)] w (bN g base D fx w vT vF (.tuple #[]) ((s.pop (Sp.label (s.at a))).die)):=by
 have js:base<=w.heap.size:=by have:=(aV h).1;have:=h.2.2.1;omega
 have h2:=aI h (av 12 a b n (.slice A l c));have m2:=(Mv.refl g w vT vF).alloc (av 12 a b n (.slice A l c));have z2:(w.alloc (av 12 a b n (.slice A l c))).heap[w.heap.size]? =some (.cells #[.int .i64 12,.int .i64 a,.int .i64 b,.int .u64 n,.slice A l c] 25 (0,0)):=dh w _;have oc:(w.alloc (av 12 a b n (.slice A l c))).heap.size=w.heap.size+1:=by simp
 obtain⟨bx,gG⟩:=ex w.heap.size
 go_enter func94,ntmps94
 go_wp2_with fail
 rw[<-gG]at z2 oc⊢;generalize w.alloc (av 12 a b n (.slice A l c))=X at h2 m2 z2 oc⊢;have H2:=hd h2;have M2:=hd m2;have Z2:=hd z2;have HW:=hd h;have ni:=hd gG;have Fu:=hd oc;have ki:=hd js;have HI:=hd hI;have HL:=hd hl;have Jy:=(aa z2 0).trans rfl;have Yl:=(aa z2 1).trans rfl;have Ym:=(aa z2 4).trans rfl;clear h2 m2 z2 h gG oc js hI hl
 go_wp2_with fail
 obtain⟨f,hf⟩:=ex (s.at a);refine(rS X base g D fx s vT vF H2.o HI.o a k0 k1).mono ?_;rw[<-hf];have Ia:=hd hf;clear hf;rintro e W4⟨u1,u2,rfl,hb4,r1,r2⟩;obtain⟨B1,d1,rfl⟩:=Kd.ai r1;obtain⟨B2,d2,rfl⟩:=Kd.ai r2;have rl:bl W4 base (fun k=>k≠g/\some k≠vT.ownBlock/\some k≠vF.ownBlock) (if f.f0=3 then .slice B1 f.f1.f0.length d1 else .slice B2 f.f1.f1.length d2) (Sp.label f):=by unfold Sp.label;split;exact r1;exact r2
 obtain⟨Pl,kl,hvl⟩:=Kd.ai rl;rw[hvl]at rl;have Gq:Hid (∀W,Calls prog 150 #[.agg #[.int .i64 f.f0,.slice B1 f.f1.f0.length d1,.slice B2 f.f1.f1.length d2,.int .i64 f.f2,.bool f.f3]] W (zB (.slice Pl (Sp.label f).length kl) W)):=hd (fun W=>by have:=nN f.f0 B1 B2 f.f1.f0.length f.f1.f1.length d1 d2 f.f2 f.f3 W;rw[hvl]at this;exact this);have Yi:=hd rl;have bP:=hd hb4;clear rl hvl r1 r2 hb4
 go_wp2_with fail
 refine(Gq.o _).mono ?_;rintro e W5⟨rfl,xZ⟩;have hb:=aA bP.o bP.o.size xZ;have H5:=hd (aY H2.o hb);have M5:=hd (M2.o.trans (Mv.bF hb));have Z5:=hd ((hb.block bx (aj Z2.o)).trans Z2.o);have WG:=hd (Kd.cM Yi.o xZ);clear hb xZ Jy Yl Ym;have Jy:=(aa Z5.o 0).trans rfl
 go_wp2_with fail
 refine(gm W5 base g D fx s vT vF _ H5.o HI.o (Sp.label f) (fO H5.o WG.o) (by rw[Ia.o];omega)).mono ?_;rintro e W6⟨rfl,ri,rj,m6,h6⟩;have M6:=hd (M5.o.trans m6);have H6:=hd h6;have Qf:=hd (Sp.iA HI.o (Sp.label f));clear m6 h6 Jy
 go_wp2_with fail
 refine(kZ W6 base g D fx _ ri rj H6.o Qf.o).mono ?_;rintro e W7⟨rfl,KY,KZ,m7,h7⟩;have M7:=hd (M6.o.trans m7);have H7:=hd h7;clear m7 h7
 go_wp2_with fail
 go_end0
 rw[<-Ia.o];exact⟨rfl,KY,KZ,M7.o,H7.o⟩
theorem FD(w:World)(base g:Nat)(D:Nat->Prop)(fx:List Value)(s:Sp.St)(vT vF:Value)(h:aJ w base g D fx s vT vF)(hI:Sp.cq s)(hl:s.T.length+8<=1000000)(a b n:Int)(A:Option Addr)(r:List Int)(c:Nat)(hL:gO base w A r)(Tj:r.length<=100000)(hkn: ∀k:Nat,k<r.length->0<=rd r (k:Int)/\rd r (k:Int)<s.F.length)(h8: ∀i:Int,0<=i->i<s.F.length->(bB s.F i).f1.f0.length<=8/\(bB s.F i).f1.f1.length<=8):Calls prog 94 #[.pointer (some ⟨g,0,none⟩),bX 14 a b n (.slice A r.length c)] w (bN g base D fx w vT vF (.tuple #[]) (s.table r)):=by
 have HRB:=hd hL;have HRN:=hd Tj;have HRK:=hd hkn;have HR8:=hd h8;clear hL Tj hkn h8;have js:base<=w.heap.size:=by have:=(aV h).1;have:=h.2.2.1;omega
 have h2:=aI h (av 14 a b n (.slice A r.length c));have m2:=(Mv.refl g w vT vF).alloc (av 14 a b n (.slice A r.length c));have z2:(w.alloc (av 14 a b n (.slice A r.length c))).heap[w.heap.size]? =some (.cells #[.int .i64 14,.int .i64 a,.int .i64 b,.int .u64 n,.slice A r.length c] 25 (0,0)):=dh w _;have oc:(w.alloc (av 14 a b n (.slice A r.length c))).heap.size=w.heap.size+1:=by simp
 obtain⟨bx,gG⟩:=ex w.heap.size
 go_enter func94,ntmps94
 go_wp2_with fail
 rw[<-gG]at z2 oc⊢;generalize w.alloc (av 14 a b n (.slice A r.length c))=X at h2 m2 z2 oc⊢;have H2:=hd h2;have M2:=hd m2;have Z2:=hd z2;have HW:=hd h;have ni:=hd gG;have Fu:=hd oc;have ki:=hd js;have HI:=hd hI;have HL:=hd hl;have Jy:=(aa z2 0).trans rfl;have Yl:=(aa z2 1).trans rfl;have Ym:=(aa z2 4).trans rfl;clear h2 m2 z2 h gG oc js hI hl;have HRX:=hd (HRB.o.then (kD HW.o M2.o ki.o))
 go_wp2_with fail
 refine(Dp X base g D fx s vT vF H2.o HI.o (by have:=Fu.o;have:=ni.o;have:=ki.o;omega) A c r HRX.o HRN.o HRK.o HR8.o HL.o).mono ?_;rintro e W6⟨rfl,ri,rj,m6,h6⟩;have M6:=hd (M2.o.trans m6);have H6:=hd h6;clear m6 h6 Jy Yl Ym
 go_wp2_with fail
 go_end0
 exact⟨rfl,ri,rj,M6.o,H6.o⟩
theorem FE(w:World)(base g:Nat)(D:Nat->Prop)(fx:List Value)(s:Sp.St)(vT vF:Value)(h:aJ w base g D fx s vT vF)(hI:Sp.cq s)(hl:s.T.length+8<=1000000)(a b n:Int)(A:Option Addr)(l c:Nat)(k0:0<=a)(k1:a<s.F.length)(h8:(Sp.label (s.at a)).length<=8):Calls prog 94 #[.pointer (some ⟨g,0,none⟩),bX 13 a b n (.slice A l c)] w (bN g base D fx w vT vF (.tuple #[]) (((s.pop [127]).pop (Sp.label (s.at a))).push (Sp.label (s.at a)))):=by
 have js:base<=w.heap.size:=by have:=(aV h).1;have:=h.2.2.1;omega
 have h2:=aI h (av 13 a b n (.slice A l c));have m2:=(Mv.refl g w vT vF).alloc (av 13 a b n (.slice A l c));have z2:(w.alloc (av 13 a b n (.slice A l c))).heap[w.heap.size]? =some (.cells #[.int .i64 13,.int .i64 a,.int .i64 b,.int .u64 n,.slice A l c] 25 (0,0)):=dh w _;have oc:(w.alloc (av 13 a b n (.slice A l c))).heap.size=w.heap.size+1:=by simp
 obtain⟨bx,gG⟩:=ex w.heap.size
 go_enter func94,ntmps94
 go_wp2_with fail
 rw[<-gG]at z2 oc⊢;generalize w.alloc (av 13 a b n (.slice A l c))=X at h2 m2 z2 oc⊢;have H2:=hd h2;have M2:=hd m2;have Z2:=hd z2;have HW:=hd h;have ni:=hd gG;have Fu:=hd oc;have ki:=hd js;have HI:=hd hI;have HL:=hd hl;have Jy:=(aa z2 0).trans rfl;have Yl:=(aa z2 1).trans rfl;have Ym:=(aa z2 4).trans rfl;clear h2 m2 z2 h gG oc js hI hl
 go_wp2_with fail
 obtain⟨f,hf⟩:=ex (s.at a);refine(rS X base g D fx s vT vF H2.o HI.o a k0 k1).mono ?_;rw[<-hf];have Ia:=hd hf;clear hf;rintro e W4⟨u1,u2,rfl,hb4,r1,r2⟩;obtain⟨B1,d1,rfl⟩:=Kd.ai r1;obtain⟨B2,d2,rfl⟩:=Kd.ai r2;have rl:bl W4 base (fun k=>k≠g/\some k≠vT.ownBlock/\some k≠vF.ownBlock) (if f.f0=3 then .slice B1 f.f1.f0.length d1 else .slice B2 f.f1.f1.length d2) (Sp.label f):=by unfold Sp.label;split;exact r1;exact r2
 obtain⟨Pl,kl,hvl⟩:=Kd.ai rl;rw[hvl]at rl;have Gq:Hid (∀W,Calls prog 150 #[.agg #[.int .i64 f.f0,.slice B1 f.f1.f0.length d1,.slice B2 f.f1.f1.length d2,.int .i64 f.f2,.bool f.f3]] W (zB (.slice Pl (Sp.label f).length kl) W)):=hd (fun W=>by have:=nN f.f0 B1 B2 f.f1.f0.length f.f1.f1.length d1 d2 f.f2 f.f3 W;rw[hvl]at this;exact this);have Yi:=hd rl;have bP:=hd hb4;clear rl hvl r1 r2 hb4
 go_wp2_with fail
 refine(Gq.o _).mono ?_;rintro e W5⟨rfl,xZ⟩;have hb:=aA bP.o bP.o.size xZ;have H5:=hd (aY H2.o hb);have M5:=hd (M2.o.trans (Mv.bF hb));have Z5:=hd ((hb.block bx (aj Z2.o)).trans Z2.o);have WG:=hd (Kd.cM Yi.o xZ);clear hb xZ Jy Yl Ym;have Jy:=(aa Z5.o 0).trans rfl
 go_wp2_with fail
 have Qg:=hd (show bx≠g/\some bx≠vT.ownBlock/\some bx≠vF.ownBlock from⟨by have:=(aV HW.o).1;have:=ni.o;omega,fun e=>by have:=(aV HW.o).2.1 _ e.symm;have:=ni.o;omega,fun e=>by have:=(aV HW.o).2.2 _ e.symm;have:=ni.o;omega⟩);have RL6:Hid (∀o:Obj,bl (W5.alloc o) base _ (.slice Pl (Sp.label f).length kl) (Sp.label f)):=hd (fun o=>Kd.aZ WG.o o);refine(cH [127] H5.o HI.o rfl rfl (by simp)).mono ?_;rintro e W6⟨rfl,ri,rj,m6,h6⟩;have M6:=hd (M5.o.trans m6);have H6:=hd h6;have Qf:=hd (Sp.iA HI.o [127]);have R6:=hd (lu WG.o m6 (fun _ h=>h));clear m6 h6 Jy
 go_wp2_with fail
 refine(gm W6 base g D fx _ ri rj _ H6.o Qf.o (Sp.label f) (fO H6.o R6.o) (by rw[Ia.o];omega)).mono ?_;rintro e W7⟨rfl,KY,KZ,m7,h7⟩;have M7:=hd (M6.o.trans m7);have H7:=hd h7;have R7:=hd (lu R6.o m7 (fun _ h=>h));clear m7 h7
 go_wp2_with fail
 refine(dP W7 base g D fx _ KY KZ _ H7.o (Sp.label f) (fO H7.o R7.o) (cG (Nat.add_le_add (cG (p9 (s.pop [127]) (Sp.label f)) (p9 s [127])) (show(Sp.label f).length<=8 by rw[Ia.o];exact h8)) HL.o)).mono ?_;rintro e W8⟨rfl,WH,vF8,m8,h8'⟩;have M8:=hd (M7.o.trans m8);have H8:=hd h8';clear m8 h8'
 go_wp2_with fail
 go_end0
 rw[<-Ia.o];exact⟨rfl,WH,vF8,M8.o,H8.o⟩
theorem FH(w:World)(base g:Nat)(E:Sp.Env)(cs:List Value)(vL v1 v2:Value)(s:Sp.St)(vT vF:Value)(h:aJ w base g (di vL v1 v2) (cs++ [vL,v1,v2]) s vT vF)(hE:dO w base E cs vL v1 v2)(hI:Sp.cq s)(hl:s.T.length+8<=1000000)(a b n:Int)(A:Option Addr)(l c:Nat)(r8:E.S.f1.length<=8):Calls prog 94 #[.pointer (some ⟨g,0,none⟩),bX 15 a b n (.slice A l c)] w (bN g base (di vL v1 v2) (cs++ [vL,v1,v2]) w vT vF (.tuple #[]) ((s.pop E.S.f1).die)):=by
 obtain⟨A0,c0,A1,c1,A2,c2,A3,c3,A4,c4,A5,c5,A6,c6,A7,c7,rfl,-⟩:=aD (fq hE);have js:=dc hE;have h2:=aI h (av 15 a b n (.slice A l c));have e2:=aC hE (af (ay _ _) (av 15 a b n (.slice A l c)));have m2:=(Mv.refl g w vT vF).alloc (av 15 a b n (.slice A l c));have z2:(w.alloc (av 15 a b n (.slice A l c))).heap[w.heap.size]? =some (.cells #[.int .i64 15,.int .i64 a,.int .i64 b,.int .u64 n,.slice A l c] 25 (0,0)):=dh w _;have oc:(w.alloc (av 15 a b n (.slice A l c))).heap.size=w.heap.size+1:=by simp
 obtain⟨bx,gG⟩:=ex w.heap.size
 go_enter func94,ntmps94
 have hr3:=e2.choose_spec.2.2.2.2.2;obtain⟨S2,kS,rfl⟩:=Kd.ai hr3;have y10:(w.alloc (av 15 a b n (.slice A l c))).cell? ⟨g,10,none⟩=some (.slice S2 E.S.f1.length kS):=(aa h2.1 10).trans rfl
 go_wp2_with fail
 clear y10 hr3;rw[<-gG]at z2 oc⊢;generalize w.alloc (av 15 a b n (.slice A l c))=X at h2 e2 m2 z2 oc⊢;have H2:=hd h2;have E2:=hd e2;have M2:=hd m2;have Z2:=hd z2;have HW:=hd h;have ni:=hd gG;have Fu:=hd oc;have ki:=hd js;have HI:=hd hI;have HL:=hd hl;clear h2 e2 m2 z2 h hE gG oc js hI hl;have hr3:=E2.o.choose_spec.2.2.2.2.2;have HA:=hd (ze hr3 (fun k hk=>⟨fun e=>H2.o.2.2.2.1 (by rw[<-e];exact hk),fun e=>(H2.o.2.2.2.2.1.1 k e.symm).2.2 hk,fun e=>H2.o.2.2.2.2.2.2.1 k e.symm hk⟩) (aV H2.o).1 (aV H2.o).2.1 (aV H2.o).2.2);clear hr3;refine(gm X base g _ _ s vT vF _ H2.o HI.o E.S.f1 HA.o (by omega)).mono ?_;rintro e W6⟨rfl,ri,rj,m6,h6⟩;have M6:=hd (M2.o.trans m6);have H6:=hd h6;have Qf:=hd (Sp.iA HI.o E.S.f1);clear m6 h6
 go_wp2_with fail
 refine(kZ W6 base g _ _ _ ri rj H6.o Qf.o).mono ?_;rintro e W7⟨rfl,KY,KZ,m7,h7⟩;have M7:=hd (M6.o.trans m7);have H7:=hd h7;clear m7 h7
 go_wp2_with fail
 go_end0
 exact⟨rfl,KY,KZ,M7.o,H7.o⟩
end Go.Proofs.YthehihjcpiadgaaGreat
