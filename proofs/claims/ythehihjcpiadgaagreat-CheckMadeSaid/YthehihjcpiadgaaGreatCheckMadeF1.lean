import Derived.Test.YthehihjcpiadgaaGreatCheckMadeS2
import Derived.Test.YthehihjcpiadgaaGreatCheckMadeT3
set_option maxRecDepth 100000
set_option maxHeartbeats 0
set_option linter.all false
open Go.Proofs.Tryz
section
namespace Go.Proofs.YthehihjcpiadgaaGreat
open Go.RowKit Go.Proofs.Wz.PrintWords
namespace Sp
def dR(g:Nat->Int):Nat->Nat->Int
 |0,_=>0
 |d+1,k=>if g k=0 then dR g d (k+1)else g k
theorem pL(g:Nat->Int)(n k:Nat)(h:k<n)(e:g k=0):dR g (n-k) k=dR g (n-(k+1)) (k+1):=by
 obtain⟨d,hd9⟩: ∃d,n-k=d+1:=⟨n-k-1,by omega⟩;rw[hd9,show n-(k+1)=d by omega];show(if g k=0 then dR g d (k+1)else g k)=_
 rw[if_pos e]
theorem pM(g:Nat->Int)(n k:Nat)(h:k<n)(e:g k≠0):dR g (n-k) k=g k:=by
 obtain⟨d,hd9⟩: ∃d,n-k=d+1:=⟨n-k-1,by omega⟩;rw[hd9];show(if g k=0 then dR g d (k+1)else g k)=_
 rw[if_neg e]
theorem pN(g:Nat->Int)(n k:Nat)(h:n<=k):dR g (n-k) k=0:=by
 rw[show n-k=0 by omega];rfl
def uI(M:bL)(j:Nat):Env:=
 let t:=(aM M ((M.f1.length:Int)+j)).getD cv
 ⟨M,t.f0++(aF M.f2 (j:Int)).f1,t⟩
def kN(M:bL)(pl:Bool)(j:Nat):Int×Int:=run (uI M j) pl (aF M.f2 (j:Int)).f2 0 (begin (uI M j))
def gh(M:bL):Int:=dR (fun j=>eO (aF M.f2 (j:Int)).f2) M.f2.length 0
def eP(M:bL)(pl:Bool):Int:=
 if !indices M then 23 else if pl&& !iI M then 24 else dR (fun j=>(kN M pl j).2) M.f2.length 0
def b9(M:bL)(p:Int):Int:=
 if p≠1/\p≠2 then 1 else if right M≠0 then right M else if gh M≠0 then gh M else eP M (decide (p=1))
structure jM(M:bL):Prop where
 n0:M.f0.length<=64
 n12:M.f1.length+M.f2.length<=256
 n3:M.f3.length<=4
 n4:M.f4.length<=256
 n5:M.f5.length<=256
 n6:M.f6.length<=16
 n7:M.f7.length<=16
 ty: ∀i:Nat,i<M.f0.length->typed (cD M.f0 (i:Int))=true
 im: ∀i:Nat,i<M.f1.length->imported (ij M.f1 (i:Int))=true
 fn: ∀i:Nat,i<M.f2.length->qO (aF M.f2 (i:Int))=true
 gl: ∀i:Nat,i<M.f4.length->jG (dg M.f4 (i:Int))=true
theorem Dt{α:Type}{p:α->Bool}{xs:List α}(z:α)(h:xs.all p=true)(i:Nat)(hi:i<xs.length):p (mh z xs (i:Int))=true:=by
 rw[List.all_eq_true]at h;have:=h _ (List.getElem_mem hi);simpa[mh,gq,hi]using this
theorem zI{M:bL}(h:right M=0):jM M:=by
 unfold right at h
 split at h
 ·cases h
 ·rename_i hf
  split at h
  ·cases h
  ·rename_i hn
   have hf2:full M=false:=by simpa using hf
   unfold full at hf2;have hf3:=of_decide_eq_false hf2;simp only[Bool.or_eq_true,Bool.not_eq_true',not_or,Bool.not_eq_false]at hn;obtain⟨⟨⟨⟨⟨⟨⟨h0,h1⟩,h5⟩,h7⟩,h2⟩,h3⟩,h4⟩,h6⟩:=hn;exact⟨by omega,by omega,by omega,by omega,by omega,by omega,by omega,Dt cv h0,Dt MF h1,Dt yD h2,Dt Er h4⟩
theorem rU{f:iB}(h:qO f=true):f.f2.length<=65536/\f.f1.length<=256/\0<=f.f0/\f.f0<=2147483647/\types f.f1=true/\ ∀i:Nat,i<f.f2.length->fD (aO f.f2 (i:Int))=true:=by
 unfold qO at h;simp only[Bool.and_eq_true,decide_eq_true_eq,Bool.not_eq_true']at h;obtain⟨h0,h1,h2,h3,h4⟩:=h;unfold index at h0;have h0:=of_decide_eq_true h0;refine⟨by omega,by omega,h0.1,h0.2,h2,fun i hi=>?_⟩;rw[List.any_eq_false]at h4;have:=h4 _ (List.getElem_mem hi);simpa[aO,gq,hi]using this
theorem mQ{t:ig}(h:typed t=true):t.f0.length<=8/\t.f1.length<=8/\types t.f0=true/\types t.f1=true:=by
 unfold typed at h;simp only[Bool.and_eq_true,decide_eq_true_eq]at h;exact⟨by omega,by omega,h.2.2.1,h.2.2.2⟩
end Sp
theorem iV{M:bL}(h:Sp.jM M):fh M.f0:=fun i=>by
 by_cases hi:0<=i/\i<M.f0.length
 ·obtain⟨j,rfl⟩: ∃j:Nat,i=(j:Int):=⟨i.toNat,by omega⟩
  have:=Sp.mQ (h.ty j (by omega));omega
 ·have e:cD M.f0 i=cv\/i<0:=by
   by_cases h0:i<0
   ·exact .inr h0
   ·refine .inl ?_
    unfold cD;rw[gq,List.getElem?_eq_none (by omega)];rfl
  rcases e with e|e
  ·rw[e];exact⟨by decide,by decide⟩
  ·have e2:cD M.f0 i=cD M.f0 ((0:Nat):Int):=by
    unfold cD;rw[show i.toNat=0 by omega];rfl
   rw[e2];by_cases hl:0<M.f0.length
   ·have:=Sp.mQ (h.ty 0 hl)
    omega
   ·have e3:cD M.f0 ((0:Nat):Int)=cv:=by
     unfold cD;rw[gq,List.getElem?_eq_none (by omega)];rfl
    rw[e3];exact⟨by decide,by decide⟩
theorem vN(M:bL)(cs:List Value)(p:Int)(w:World)(hM:bZ.K w M cs)(h1:p≠1)(h2:p≠2):Calls prog 18 #[.agg cs.toArray,.int .i64 p] w (lg (Sp.b9 M p) w):=by
 obtain⟨A0,c0,A1,c1,A2,c2,A3,c3,A4,c4,A5,c5,A6,c6,A7,c7,rfl,l0,g0,l1,g1,l2,g2,-⟩:=aD hM;clear g0 g1 g2 hM l0 l1 l2;rw[show Sp.b9 M p=1 by unfold Sp.b9;rw[if_pos ⟨h1,h2⟩]];have q1:(p !=1)=true:=by simpa using h1
 have q2:(p !=2)=true:=by simpa using h2
 clear h1 h2
 go_enter func18,ntmps18
 go_wp2_with fail
 go_ret;exact⟨rfl,af (ay _ _) _⟩
theorem zJ(M:bL)(cs:List Value)(w:World)(hM:bZ.K w M cs)(n1:M.f1.length<=140737488355328)(n2:M.f2.length<=140737488355328)(hsz: ∀i:Int,(cu M.f5 i).f0.size<=maxLen)
 (hF:Sp.jM M->Sp.gh M=0->Sp.indices M=true-> ∀j:Nat,j<M.f2.length-> ∀W,Below w.heap.size w W->Calls prog 21 #[.agg cs.toArray,.int .i64 (j:Int),.int .i64 1] W (pF (Sp.kN M true j) W)):
 Calls prog 18 #[.agg cs.toArray,.int .i64 1] w (lg (Sp.b9 M 1) w):=by
 obtain⟨A0,c0,A1,c1,A2,c2,A3,c3,A4,c4,A5,c5,A6,c6,A7,c7,rfl,l0,g0,l1,g1,l2,g2,-⟩:=aD hM;have X5:=hd g2;clear g0 g1 g2 l0 l1 l2;have HM:=hd hM;clear hM;have HE:=hd (show Sp.b9 M 1=if Sp.right M≠0 then Sp.right M else if Sp.gh M≠0 then Sp.gh M else Sp.eP M true by unfold Sp.b9;rw[if_neg (by decide)];rfl);have tC:=hd (show(w.alloc (.cells #[.slice A0 M.f0.length c0,.slice A1 M.f1.length c1,.slice A2 M.f2.length c2,.slice A3 M.f3.length c3,.slice A4 M.f4.length c4,.slice A5 M.f5.length c5,.slice A6 M.f6.length c6,.slice A7 M.f7.length c7] 37)).heap[w.heap.size]? =some (.cells #[.slice A0 M.f0.length c0,.slice A1 M.f1.length c1,.slice A2 M.f2.length c2,.slice A3 M.f3.length c3,.slice A4 M.f4.length c4,.slice A5 M.f5.length c5,.slice A6 M.f6.length c6,.slice A7 M.f7.length c7] 37 (0,0))from dh w _);have cn:=hd (af (ay w.heap.size w) (.cells #[.slice A0 M.f0.length c0,.slice A1 M.f1.length c1,.slice A2 M.f2.length c2,.slice A3 M.f3.length c3,.slice A4 M.f4.length c4,.slice A5 M.f5.length c5,.slice A6 M.f6.length c6,.slice A7 M.f7.length c7] 37));have HR:=hd (fun W (hb:Below w.heap.size w W)=>uy M _ W (Kd.dJ bZ hb HM.o) n1 n2 hsz);have UY:=hd (fun W (hb:Below w.heap.size w W) (h:Sp.jM M)=>sx M _ W (Kd.dJ bZ hb HM.o) (by have:=h.n12;omega) (by have:=h.n12;omega) (by have:=h.n5;omega) (by have:=h.n6;omega) (iV h));have HPL:=hd (fun W (hb:Below w.heap.size w W) (h:Sp.jM M) (hi:Sp.indices M=true)=>qP M _ W (Kd.dJ bZ hb HM.o) hi (by have:=h.n5;omega) (by have:=h.n6;omega) (by have:=h.n0;omega));have HF:=hd hF;clear hF n1 n2 hsz;obtain⟨rv,UZ⟩:=ex (Sp.right M);have Ow:=hd UZ;rw[<-UZ]at HR;clear UZ;by_cases hr:rv=0
 ·subst hr
  have hk:=Sp.zI Ow.o.symm;have hl2:=hk.n12;have HK:=hd hk;clear hk
  go_enter func18,ntmps18
  go_wp2_with (first|((go_at_call 37);(with_reducible refine(HR.o _ cn.o).mono ?_);rintro e w1⟨rfl,hb⟩;have lT:=hd ((hb.block w.heap.size (aj tC.o)).trans tC.o);have bE:=hd (aA cn.o cn.o.size hb);clear hb;have Ox:=aj lT.o;obtain⟨Oy,Oz,OA,OB,OC,OD,OE,OG⟩:=c8 lT.o))
  clear Ox Oy Oz OA OB OC OD OE OG
  go_loopw [27] (fun i wr=> ∃k:Nat,k<=M.f2.length/\i= .int .i64 k/\Hid (Sp.gh M=Sp.dR (fun j=>Sp.eO (aF M.f2 (j:Int)).f2) (M.f2.length-k) k)/\Hid (wr.heap[w.heap.size]? =some (.cells #[.slice A0 M.f0.length c0,.slice A1 M.f1.length c1,.slice A2 M.f2.length c2,.slice A3 M.f3.length c3,.slice A4 M.f4.length c4,.slice A5 M.f5.length c5,.slice A6 M.f6.length c6,.slice A7 M.f7.length c7] 37 (0,0)))/\Hid (Below w.heap.size w wr)) (fun i _=>M.f2.length-(intOf i).toNat)
  case atStart=>exact⟨0,by omega,rfl,hd rfl,lT,bE⟩
  case round=>
   clear lT bE;obtain⟨k,hk,rfl,HX,BK,HB⟩:=hrel;rename_i wr _;have Kt:=aj BK.o;obtain⟨y0,y1,y2,y3,y4,y5,y6,y7⟩:=c8 BK.o;by_cases bI:k<M.f2.length
   ·obtain⟨fd,B2,d2,B3,d3,rfl,e2,e3,e4,-,-,-,q5⟩:=ku (Kd.bJ X5.o HB.o) (k:Int) (by omega) (by omega)
    rw[dF]at e2 e3 e4;have hc:=Sp.rU (HK.o.fn k bI);obtain⟨x,hx⟩:=ex (aF M.f2 (k:Int));rw[<-hx]at e2 e3 e4 q5 hc;have Dl:=hd hx;clear hx;have U0:=hd (fun(W:World) (hb:Below wr.heap.size wr W)=>Fs B3 d3 x.f2 W (Kd.bJ q5 hb) hc.1);clear q5 hc;obtain⟨ev,U1⟩:=ex (Sp.eO x.f2);have U2:=hd U1;rw[<-U1]at U0;clear U1;by_cases he:ev=0
    ·subst he
     have HS:=hd (Sp.pL (fun j=>Sp.eO (aF M.f2 (j:Int)).f2) M.f2.length k bI (by rw[<-Dl.o];exact U2.o.symm))
     go_wp2_with (first|((go_at_call 38);(with_reducible refine(U0.o _ (af (ay _ _) _)).mono ?_);rintro e w2⟨⟨v,rfl⟩,hb⟩;have bw:=hd hb;clear hb))
     go_roundw
     case rel=>exact⟨k+1,by omega,by go_num,hd (HX.o.trans HS.o),hd ((bw.o.block _ (aj (bh BK.o _))).trans (bh BK.o _)),hd (aA (af HB.o _) (by have:=HB.o.size;simp;omega) bw.o)⟩
     case measure=>simp[intOf];omega
    ·have HS:=hd (Sp.pM (fun j=>Sp.eO (aF M.f2 (j:Int)).f2) M.f2.length k bI (by rw[<-Dl.o,<-U2.o];exact he))
     have EF:=hd he;have g1:(ev !=0)=true:=by simpa using he
     clear he
     go_wp2_with (first|((go_at_call 38);(with_reducible refine(U0.o _ (af (ay _ _) _)).mono ?_);rintro e w2⟨⟨v,rfl⟩,hb⟩;have bw:=hd hb;clear hb))
     go_ret;have e1:Sp.gh M=ev:=by rw[HX.o,HS.o];rw[<-Dl.o];exact U2.o.symm
     refine⟨?_,aA (af HB.o _) (by have:=HB.o.size;simp;omega) bw.o⟩;rw[HE.o,if_neg (by rw[<-Ow.o];simp),e1,if_pos EF.o];rfl
   ·have Yn:=hd (show Sp.gh M=0 from HX.o.trans (Sp.pN _ _ _ (by omega)))
    have G8:=hd (HE.o.trans (show _=Sp.eP M true by rw[if_neg (by rw[<-Ow.o];simp),if_neg (by rw[Yn.o];simp)]));have hge: ¬((k:Int)<(M.f2.length:Int)):=by omega
    obtain⟨iv,hiv⟩:=ex (Sp.indices M);have R3:=hd hiv;have Tr:=hd (UY.o wr HB.o HK.o);rw[<-hiv]at Tr;clear hiv HX bI;cases iv with
    |false=>
     go_wp2_with (first|((go_at_call 39);(with_reducible refine Tr.o.mono ?_);rintro e w3⟨rfl,hb⟩;have mM:=hd ((hb.block w.heap.size (aj BK.o)).trans BK.o);have cC:=hd (aA HB.o HB.o.size hb);clear hb;have K5:=aj mM.o;obtain⟨K6,K7,K8,K9,La,Lb,Lc,Ld⟩:=c8 mM.o))
     go_ret;refine⟨?_,cC.o⟩;rw[G8.o,show Sp.eP M true=23 by unfold Sp.eP;rw[<-R3.o];rfl];rfl
    |true=>
     obtain⟨pv,hpv⟩:=ex (Sp.iI M);have Yo:=hd hpv;have HPC:=hd (fun W (hb:Below w.heap.size w W)=>HPL.o W hb HK.o R3.o.symm);rw[<-hpv]at HPC;clear hpv;cases pv with
     |false=>
      go_wp2_with (first|((go_at_call 39);(with_reducible refine Tr.o.mono ?_);rintro e w3⟨rfl,hb⟩;have mM:=hd ((hb.block w.heap.size (aj BK.o)).trans BK.o);have cC:=hd (aA HB.o HB.o.size hb);clear hb;have K5:=aj mM.o;obtain⟨K6,K7,K8,K9,La,Lb,Lc,Ld⟩:=c8 mM.o)|((go_at_call 40);(with_reducible refine(HPC.o _ cC.o).mono ?_);rintro e w4⟨rfl,hb⟩;have sW:=hd ((hb.block w.heap.size (aj mM.o)).trans mM.o);have bP:=hd (aA cC.o cC.o.size hb);clear hb;have Yp:=aj sW.o;obtain⟨Yq,Yr,Ys,Yt,Yu,Yv,Yw,Yx⟩:=c8 sW.o))
      go_ret;refine⟨?_,bP.o⟩;rw[G8.o,show Sp.eP M true=24 by unfold Sp.eP;rw[<-R3.o,<-Yo.o];rfl];rfl
     |true=>
      have HT:=hd (show Sp.eP M true=Sp.dR (fun j=>(Sp.kN M true j).2) (M.f2.length-0) 0 by unfold Sp.eP;rw[<-R3.o,<-Yo.o];rfl)
      go_wp2_with (first|((go_at_call 39);(with_reducible refine Tr.o.mono ?_);rintro e w3⟨rfl,hb⟩;have mM:=hd ((hb.block w.heap.size (aj BK.o)).trans BK.o);have cC:=hd (aA HB.o HB.o.size hb);clear hb;have K5:=aj mM.o;obtain⟨K6,K7,K8,K9,La,Lb,Lc,Ld⟩:=c8 mM.o)|((go_at_call 40);(with_reducible refine(HPC.o _ cC.o).mono ?_);rintro e w4⟨rfl,hb⟩;have sW:=hd ((hb.block w.heap.size (aj mM.o)).trans mM.o);have bP:=hd (aA cC.o cC.o.size hb);clear hb;have Yp:=aj sW.o;obtain⟨Yq,Yr,Ys,Yt,Yu,Yv,Yw,Yx⟩:=c8 sW.o))
      clear K5 K6 K7 K8 K9 La Lb Lc Ld;clear Kt y0 y1 y2 y3 y4 y5 y6 y7;clear Yp Yq Yr Ys Yt Yu Yv Yw Yx hge;obtain⟨wo,hwo⟩: ∃wo:World,wo=wr:=⟨_,rfl⟩
      go_loopw [56] (fun i wr=> ∃k:Nat,k<=M.f2.length/\i= .int .i64 k/\Hid (Sp.eP M true=Sp.dR (fun j=>(Sp.kN M true j).2) (M.f2.length-k) k)/\Hid (wr.heap[w.heap.size]? =some (.cells #[.slice A0 M.f0.length c0,.slice A1 M.f1.length c1,.slice A2 M.f2.length c2,.slice A3 M.f3.length c3,.slice A4 M.f4.length c4,.slice A5 M.f5.length c5,.slice A6 M.f6.length c6,.slice A7 M.f7.length c7] 37 (0,0)))/\Hid (Below w.heap.size w wr)) (fun i _=>M.f2.length-(intOf i).toNat)
      case atStart=>exact⟨0,by omega,rfl,HT,sW,bP⟩
      case round=>
       clear BK HB hwo wo;obtain⟨k,hk,rfl,HX,BK,HB⟩:=hrel;rename_i wr _;have Kt:=aj BK.o;obtain⟨y0,y1,y2,y3,y4,y5,y6,y7⟩:=c8 BK.o;by_cases bI:k<M.f2.length
       ·have Ia:=hd (HF.o HK.o Yn.o R3.o.symm k bI wr HB.o)
        obtain⟨r,hr⟩:=ex (Sp.kN M true k);have ir:=hd hr;rw[<-hr]at Ia;clear hr;obtain⟨r1,r2⟩:=r;by_cases he:r2=0
        ·subst he
         have HS:=hd (Sp.pL (fun j=>(Sp.kN M true j).2) M.f2.length k bI (by rw[<-ir.o]))
         go_wp2_with (first|((go_at_call 21);(with_reducible refine Ia.o.mono ?_);rintro e w5⟨rfl,hb⟩;have gI:=hd hb;clear hb))
         go_roundw
         case rel=>exact⟨k+1,by omega,by go_num,hd (HX.o.trans HS.o),hd ((gI.o.block _ (aj BK.o)).trans BK.o),hd (aA HB.o HB.o.size gI.o)⟩
         case measure=>simp[intOf];omega
        ·have HS:=hd (Sp.pM (fun j=>(Sp.kN M true j).2) M.f2.length k bI (by rw[<-ir.o];exact he))
         have g1:(r2 !=0)=true:=by simpa using he
         clear he
         go_wp2_with (first|((go_at_call 21);(with_reducible refine Ia.o.mono ?_);rintro e w5⟨rfl,hb⟩;have gI:=hd hb;clear hb))
         go_ret;refine⟨?_,aA HB.o HB.o.size gI.o⟩;rw[G8.o,HX.o,HS.o];rw[<-ir.o];rfl
       ·go_wp2_with fail
        go_ret;refine⟨?_,HB.o⟩;rw[G8.o,HX.o,Sp.pN _ _ _ (by omega)];rfl
 ·have EF:=hd hr
  have g1:(rv !=0)=true:=by simpa using hr
  clear hr
  go_enter func18,ntmps18
  go_wp2_with (first|((go_at_call 37);(with_reducible refine(HR.o _ cn.o).mono ?_);rintro e w1⟨rfl,hb⟩;have lT:=hd ((hb.block w.heap.size (aj tC.o)).trans tC.o);have bE:=hd (aA cn.o cn.o.size hb);clear hb;have Ox:=aj lT.o;obtain⟨Oy,Oz,OA,OB,OC,OD,OE,OG⟩:=c8 lT.o))
  go_ret;refine⟨?_,bE.o⟩;rw[HE.o,if_pos (by rw[<-Ow.o];exact EF.o),<-Ow.o];rfl
theorem zK(M:bL)(cs:List Value)(w:World)(hM:bZ.K w M cs)(n1:M.f1.length<=140737488355328)(n2:M.f2.length<=140737488355328)(hsz: ∀i:Int,(cu M.f5 i).f0.size<=maxLen)
 (hF:Sp.jM M->Sp.gh M=0->Sp.indices M=true-> ∀j:Nat,j<M.f2.length-> ∀W,Below w.heap.size w W->Calls prog 21 #[.agg cs.toArray,.int .i64 (j:Int),.int .i64 2] W (pF (Sp.kN M false j) W)):
 Calls prog 18 #[.agg cs.toArray,.int .i64 2] w (lg (Sp.b9 M 2) w):=by
 obtain⟨A0,c0,A1,c1,A2,c2,A3,c3,A4,c4,A5,c5,A6,c6,A7,c7,rfl,l0,g0,l1,g1,l2,g2,-⟩:=aD hM;have X5:=hd g2;clear g0 g1 g2 l0 l1 l2;have HM:=hd hM;clear hM;have HE:=hd (show Sp.b9 M 2=if Sp.right M≠0 then Sp.right M else if Sp.gh M≠0 then Sp.gh M else Sp.eP M false by unfold Sp.b9;rw[if_neg (by decide)];rfl);have tC:=hd (show(w.alloc (.cells #[.slice A0 M.f0.length c0,.slice A1 M.f1.length c1,.slice A2 M.f2.length c2,.slice A3 M.f3.length c3,.slice A4 M.f4.length c4,.slice A5 M.f5.length c5,.slice A6 M.f6.length c6,.slice A7 M.f7.length c7] 37)).heap[w.heap.size]? =some (.cells #[.slice A0 M.f0.length c0,.slice A1 M.f1.length c1,.slice A2 M.f2.length c2,.slice A3 M.f3.length c3,.slice A4 M.f4.length c4,.slice A5 M.f5.length c5,.slice A6 M.f6.length c6,.slice A7 M.f7.length c7] 37 (0,0))from dh w _);have cn:=hd (af (ay w.heap.size w) (.cells #[.slice A0 M.f0.length c0,.slice A1 M.f1.length c1,.slice A2 M.f2.length c2,.slice A3 M.f3.length c3,.slice A4 M.f4.length c4,.slice A5 M.f5.length c5,.slice A6 M.f6.length c6,.slice A7 M.f7.length c7] 37));have HR:=hd (fun W (hb:Below w.heap.size w W)=>uy M _ W (Kd.dJ bZ hb HM.o) n1 n2 hsz);have UY:=hd (fun W (hb:Below w.heap.size w W) (h:Sp.jM M)=>sx M _ W (Kd.dJ bZ hb HM.o) (by have:=h.n12;omega) (by have:=h.n12;omega) (by have:=h.n5;omega) (by have:=h.n6;omega) (iV h));have HPL:=hd (fun W (hb:Below w.heap.size w W) (h:Sp.jM M) (hi:Sp.indices M=true)=>qP M _ W (Kd.dJ bZ hb HM.o) hi (by have:=h.n5;omega) (by have:=h.n6;omega) (by have:=h.n0;omega));have HF:=hd hF;clear hF n1 n2 hsz;obtain⟨rv,UZ⟩:=ex (Sp.right M);have Ow:=hd UZ;rw[<-UZ]at HR;clear UZ;by_cases hr:rv=0
 ·subst hr
  have hk:=Sp.zI Ow.o.symm;have hl2:=hk.n12;have HK:=hd hk;clear hk
  go_enter func18,ntmps18
  go_wp2_with (first|((go_at_call 37);(with_reducible refine(HR.o _ cn.o).mono ?_);rintro e w1⟨rfl,hb⟩;have lT:=hd ((hb.block w.heap.size (aj tC.o)).trans tC.o);have bE:=hd (aA cn.o cn.o.size hb);clear hb;have Ox:=aj lT.o;obtain⟨Oy,Oz,OA,OB,OC,OD,OE,OG⟩:=c8 lT.o))
  clear Ox Oy Oz OA OB OC OD OE OG
  go_loopw [27] (fun i wr=> ∃k:Nat,k<=M.f2.length/\i= .int .i64 k/\Hid (Sp.gh M=Sp.dR (fun j=>Sp.eO (aF M.f2 (j:Int)).f2) (M.f2.length-k) k)/\Hid (wr.heap[w.heap.size]? =some (.cells #[.slice A0 M.f0.length c0,.slice A1 M.f1.length c1,.slice A2 M.f2.length c2,.slice A3 M.f3.length c3,.slice A4 M.f4.length c4,.slice A5 M.f5.length c5,.slice A6 M.f6.length c6,.slice A7 M.f7.length c7] 37 (0,0)))/\Hid (Below w.heap.size w wr)) (fun i _=>M.f2.length-(intOf i).toNat)
  case atStart=>exact⟨0,by omega,rfl,hd rfl,lT,bE⟩
  case round=>
   clear lT bE;obtain⟨k,hk,rfl,HX,BK,HB⟩:=hrel;rename_i wr _;have Kt:=aj BK.o;obtain⟨y0,y1,y2,y3,y4,y5,y6,y7⟩:=c8 BK.o;by_cases bI:k<M.f2.length
   ·obtain⟨fd,B2,d2,B3,d3,rfl,e2,e3,e4,-,-,-,q5⟩:=ku (Kd.bJ X5.o HB.o) (k:Int) (by omega) (by omega)
    rw[dF]at e2 e3 e4;have hc:=Sp.rU (HK.o.fn k bI);obtain⟨x,hx⟩:=ex (aF M.f2 (k:Int));rw[<-hx]at e2 e3 e4 q5 hc;have Dl:=hd hx;clear hx;have U0:=hd (fun(W:World) (hb:Below wr.heap.size wr W)=>Fs B3 d3 x.f2 W (Kd.bJ q5 hb) hc.1);clear q5 hc;obtain⟨ev,U1⟩:=ex (Sp.eO x.f2);have U2:=hd U1;rw[<-U1]at U0;clear U1;by_cases he:ev=0
    ·subst he
     have HS:=hd (Sp.pL (fun j=>Sp.eO (aF M.f2 (j:Int)).f2) M.f2.length k bI (by rw[<-Dl.o];exact U2.o.symm))
     go_wp2_with (first|((go_at_call 38);(with_reducible refine(U0.o _ (af (ay _ _) _)).mono ?_);rintro e w2⟨⟨v,rfl⟩,hb⟩;have bw:=hd hb;clear hb))
     go_roundw
     case rel=>exact⟨k+1,by omega,by go_num,hd (HX.o.trans HS.o),hd ((bw.o.block _ (aj (bh BK.o _))).trans (bh BK.o _)),hd (aA (af HB.o _) (by have:=HB.o.size;simp;omega) bw.o)⟩
     case measure=>simp[intOf];omega
    ·have HS:=hd (Sp.pM (fun j=>Sp.eO (aF M.f2 (j:Int)).f2) M.f2.length k bI (by rw[<-Dl.o,<-U2.o];exact he))
     have EF:=hd he;have g1:(ev !=0)=true:=by simpa using he
     clear he
     go_wp2_with (first|((go_at_call 38);(with_reducible refine(U0.o _ (af (ay _ _) _)).mono ?_);rintro e w2⟨⟨v,rfl⟩,hb⟩;have bw:=hd hb;clear hb))
     go_ret;have e1:Sp.gh M=ev:=by rw[HX.o,HS.o];rw[<-Dl.o];exact U2.o.symm
     refine⟨?_,aA (af HB.o _) (by have:=HB.o.size;simp;omega) bw.o⟩;rw[HE.o,if_neg (by rw[<-Ow.o];simp),e1,if_pos EF.o];rfl
   ·have Yn:=hd (show Sp.gh M=0 from HX.o.trans (Sp.pN _ _ _ (by omega)))
    have G8:=hd (HE.o.trans (show _=Sp.eP M false by rw[if_neg (by rw[<-Ow.o];simp),if_neg (by rw[Yn.o];simp)]));have hge: ¬((k:Int)<(M.f2.length:Int)):=by omega
    obtain⟨iv,hiv⟩:=ex (Sp.indices M);have R3:=hd hiv;have Tr:=hd (UY.o wr HB.o HK.o);rw[<-hiv]at Tr;clear hiv HX bI;cases iv with
    |false=>
     go_wp2_with (first|((go_at_call 39);(with_reducible refine Tr.o.mono ?_);rintro e w3⟨rfl,hb⟩;have mM:=hd ((hb.block w.heap.size (aj BK.o)).trans BK.o);have cC:=hd (aA HB.o HB.o.size hb);clear hb;have K5:=aj mM.o;obtain⟨K6,K7,K8,K9,La,Lb,Lc,Ld⟩:=c8 mM.o))
     go_ret;refine⟨?_,cC.o⟩;rw[G8.o,show Sp.eP M false=23 by unfold Sp.eP;rw[<-R3.o];rfl];rfl
    |true=>
     have HT:=hd (show Sp.eP M false=Sp.dR (fun j=>(Sp.kN M false j).2) (M.f2.length-0) 0 by unfold Sp.eP;rw[<-R3.o];rfl)
     go_wp2_with (first|((go_at_call 39);(with_reducible refine Tr.o.mono ?_);rintro e w3⟨rfl,hb⟩;have mM:=hd ((hb.block w.heap.size (aj BK.o)).trans BK.o);have cC:=hd (aA HB.o HB.o.size hb);clear hb;have K5:=aj mM.o;obtain⟨K6,K7,K8,K9,La,Lb,Lc,Ld⟩:=c8 mM.o))
     clear Kt y0 y1 y2 y3 y4 y5 y6 y7;clear K5 K6 K7 K8 K9 La Lb Lc Ld hge;obtain⟨wo,hwo⟩: ∃wo:World,wo=wr:=⟨_,rfl⟩
     go_loopw [56] (fun i wr=> ∃k:Nat,k<=M.f2.length/\i= .int .i64 k/\Hid (Sp.eP M false=Sp.dR (fun j=>(Sp.kN M false j).2) (M.f2.length-k) k)/\Hid (wr.heap[w.heap.size]? =some (.cells #[.slice A0 M.f0.length c0,.slice A1 M.f1.length c1,.slice A2 M.f2.length c2,.slice A3 M.f3.length c3,.slice A4 M.f4.length c4,.slice A5 M.f5.length c5,.slice A6 M.f6.length c6,.slice A7 M.f7.length c7] 37 (0,0)))/\Hid (Below w.heap.size w wr)) (fun i _=>M.f2.length-(intOf i).toNat)
     case atStart=>exact⟨0,by omega,rfl,HT,mM,cC⟩
     case round=>
      clear BK HB hwo wo;obtain⟨k,hk,rfl,HX,BK,HB⟩:=hrel;rename_i wr _;have Kt:=aj BK.o;obtain⟨y0,y1,y2,y3,y4,y5,y6,y7⟩:=c8 BK.o;by_cases bI:k<M.f2.length
      ·have Ia:=hd (HF.o HK.o Yn.o R3.o.symm k bI wr HB.o)
       obtain⟨r,hr⟩:=ex (Sp.kN M false k);have ir:=hd hr;rw[<-hr]at Ia;clear hr;obtain⟨r1,r2⟩:=r;by_cases he:r2=0
       ·subst he
        have HS:=hd (Sp.pL (fun j=>(Sp.kN M false j).2) M.f2.length k bI (by rw[<-ir.o]))
        go_wp2_with (first|((go_at_call 21);(with_reducible refine Ia.o.mono ?_);rintro e w5⟨rfl,hb⟩;have gI:=hd hb;clear hb))
        go_roundw
        case rel=>exact⟨k+1,by omega,by go_num,hd (HX.o.trans HS.o),hd ((gI.o.block _ (aj BK.o)).trans BK.o),hd (aA HB.o HB.o.size gI.o)⟩
        case measure=>simp[intOf];omega
       ·have HS:=hd (Sp.pM (fun j=>(Sp.kN M false j).2) M.f2.length k bI (by rw[<-ir.o];exact he))
        have g1:(r2 !=0)=true:=by simpa using he
        clear he
        go_wp2_with (first|((go_at_call 21);(with_reducible refine Ia.o.mono ?_);rintro e w5⟨rfl,hb⟩;have gI:=hd hb;clear hb))
        go_ret;refine⟨?_,aA HB.o HB.o.size gI.o⟩;rw[G8.o,HX.o,HS.o];rw[<-ir.o];rfl
      ·go_wp2_with fail
       go_ret;refine⟨?_,HB.o⟩;rw[G8.o,HX.o,Sp.pN _ _ _ (by omega)];rfl
 ·have EF:=hd hr
  have g1:(rv !=0)=true:=by simpa using hr
  clear hr
  go_enter func18,ntmps18
  go_wp2_with (first|((go_at_call 37);(with_reducible refine(HR.o _ cn.o).mono ?_);rintro e w1⟨rfl,hb⟩;have lT:=hd ((hb.block w.heap.size (aj tC.o)).trans tC.o);have bE:=hd (aA cn.o cn.o.size hb);clear hb;have Ox:=aj lT.o;obtain⟨Oy,Oz,OA,OB,OC,OD,OE,OG⟩:=c8 lT.o))
  go_ret;refine⟨?_,bE.o⟩;rw[HE.o,if_pos (by rw[<-Ow.o];exact EF.o),<-Ow.o];rfl
end Go.Proofs.YthehihjcpiadgaaGreat
end
section
namespace Go.Proofs.YthehihjcpiadgaaGreat
open Go.RowKit Go.Proofs.Wz.PrintWords
namespace Sp
theorem dA{i:aW}(h:fD i=true): -2147483648<=i.f1/\i.f1<=2147483647/\i.f4.length<=1000000:=by
 unfold fD at h;simp only[Bool.and_eq_true,Bool.or_eq_true,decide_eq_true_eq]at h;obtain⟨hk,hs,hA,hB,hN,hL⟩:=h
 have h4:i.f4.length<=1000000:=by
  rcases hL with hL|hL
  ·have mL:i.f0=14:=of_decide_eq_true hL
   unfold lF at hs;have e1:opens i.f0=false:=by rw[mL];rfl
   have e2:eD i.f0=false:=by rw[mL];rfl
   rw[if_neg (by simp[e1]),if_neg (by simp[e2]),if_neg (by rw[mL];decide),if_neg (by omega),if_pos mL]at hs;simp only[Bool.and_eq_true,decide_eq_true_eq]at hs;omega
  ·omega
 by_cases ha:CD i.f0=true
 ·unfold lF at hs
  unfold CD at ha;simp only[Bool.or_eq_true,decide_eq_true_eq]at ha;unfold within at hs;by_cases e1:opens i.f0=true
  ·rw[if_pos e1]at hs
   have:=of_decide_eq_true hs;omega
  ·by_cases e2:eD i.f0=true
   ·rw[if_neg e1,if_pos e2]at hs
    simp only[Bool.and_eq_true,decide_eq_true_eq]at hs;omega
   ·rw[if_neg e1,if_neg e2]at hs
    have ha2:i.f0=12\/i.f0=13\/i.f0=16\/i.f0=18\/(32<=i.f0/\i.f0<=36)\/i.f0=63\/i.f0=64\/(64520<=i.f0/\i.f0<=64523):=by
     rcases ha with(q|q)|q
     ·exact absurd q e1
     ·exact q
     ·exact absurd q e2
    clear ha
    have hc:dx i.f0=0:=by
     by_cases q:dx i.f0=0
     ·exact q
     ·have:=(mo i.f0).2 q
      omega
    rw[if_neg (by simp[hc])]at hs
    (repeat' split at hs)<;>(try simp only[Bool.and_eq_true,decide_eq_true_eq]at hs)<;>first|omega|(refine⟨?_,?_,h4⟩<;>omega)|(exfalso;omega)
 ·have:=hA.resolve_left ha
  omega
theorem R5{M:bL}{f:Int}{t:ig}(h:aM M f=some t): ∃j:Nat,j<M.f0.length/\t=cD M.f0 (j:Int):=by
 unfold aM at h;cases hf:fnType M f with
 |none=>rw[hf]at h;cases h
 |some k=>
  rw[hf]at h
  change Ap M k=some t at h
  unfold Ap at h
  split at h
  ·injection h with h
   exact⟨k.toNat,by omega,by rw[<-h];congr 1;omega⟩
  ·cases h
theorem vP{M:bL}(hk:jM M){f:Int}{t:ig}(h:aM M f=some t):typed t=true:=by
 obtain⟨j,hj,rfl⟩:=R5 h;exact hk.ty j hj
theorem FI{M:bL}(hi:indices M=true)(j:Nat)(hj:j<M.f2.length): ∃t,aM M ((M.f1.length:Int)+j)=some t:=by
 unfold indices Kq at hi;simp only[Bool.and_eq_true,List.all_eq_true]at hi;have:=hi.1 (M.f1.length+j) (List.mem_range.2 (by omega));rw[show((M.f1.length+j:Nat):Int)=(M.f1.length:Int)+j by omega]at this;exact Option.isSome_iff_exists.1 this
end Sp
theorem nY(M:bL)(cs:List Value)(j:Nat)(p:Int)(w:World)(hM:bZ.K w M cs)(hk:Sp.jM M)(hi:Sp.indices M=true)(hj:j<M.f2.length)(hp:p=1\/p=2)
 (Gp: ∀k:Nat,k<(aF M.f2 (j:Int)).f2.length->eW (Sp.uI M j) (aO (aF M.f2 (j:Int)).f2 (k:Int))):
 Calls prog 21 #[.agg cs.toArray,.int .i64 (j:Int),.int .i64 p] w (pF (Sp.kN M (decide (p=1)) j) w):=by
 obtain⟨t,ht⟩:=Sp.FI hi j hj;have h8:=Sp.mQ (Sp.vP hk ht);have hc:=Sp.rU (hk.fn j hj);have h12:=hk.n12;have e:Sp.uI M j=⟨M,t.f0++(aF M.f2 (j:Int)).f1,t⟩:=by unfold Sp.uI;rw[ht];rfl
 have hKn: ∀k:Nat,k<(aF M.f2 (j:Int)).f2.length->xT ⟨M,t.f0++(aF M.f2 (j:Int)).f1,t⟩ (aO (aF M.f2 (j:Int)).f2 (k:Int)):=fun k hk2=>by
  have hb:=Sp.dA (hc.2.2.2.2.2 k hk2);exact RS _ _ (iV hk) (by dsimp only;omega) (by dsimp only;omega) hb.1 hb.2.1 hb.2.2
 have er: ∀pl,Sp.kN M pl j=Sp.run ⟨M,t.f0++(aF M.f2 (j:Int)).f1,t⟩ pl (aF M.f2 (j:Int)).f2 0 (Sp.begin ⟨M,t.f0++(aF M.f2 (j:Int)).f1,t⟩):=fun pl=>by unfold Sp.kN;rw[e]
 rw[er];rw[e]at Gp;rcases hp with rfl|rfl
 ·exact Dc M cs (j:Int) w hM (by omega) (by omega) (iV hk) (by omega) (by omega) t ht (by omega) (by omega) (by omega) (by omega) hKn Gp
 ·exact Df M cs (j:Int) w hM (by omega) (by omega) (iV hk) (by omega) (by omega) t ht (by omega) (by omega) (by omega) (by omega) hKn Gp
theorem lZ(M:bL)(cs:List Value)(p:Int)(w:World)(hM:bZ.K w M cs)(n1:M.f1.length<=140737488355328)(n2:M.f2.length<=140737488355328)(hsz: ∀i:Int,(cu M.f5 i).f0.size<=maxLen)
 (Gp:Sp.jM M->Sp.gh M=0->Sp.indices M=true-> ∀j:Nat,j<M.f2.length-> ∀k:Nat,k<(aF M.f2 (j:Int)).f2.length->eW (Sp.uI M j) (aO (aF M.f2 (j:Int)).f2 (k:Int))):
 Calls prog 18 #[.agg cs.toArray,.int .i64 p] w (lg (Sp.b9 M p) w):=by
 by_cases h1:p=1
 ·subst h1
  exact zJ M cs w hM n1 n2 hsz (fun hk hm hi j hj W hb=>nY M cs j 1 W (Kd.dJ bZ hb hM) hk hi hj (.inl rfl) (Gp hk hm hi j hj))
 ·by_cases h2:p=2
  ·subst h2
   exact zK M cs w hM n1 n2 hsz (fun hk hm hi j hj W hb=>nY M cs j 2 W (Kd.dJ bZ hb hM) hk hi hj (.inr rfl) (Gp hk hm hi j hj))
  ·exact vN M cs p w hM h1 h2
end Go.Proofs.YthehihjcpiadgaaGreat
end
section
namespace Go.Proofs.YthehihjcpiadgaaGreat
open Go.RowKit Go.Proofs.Wz.PrintWords
namespace Sp
theorem bG.at8{t n:Nat}{s:St}(h:bG t n s)(a:Int)(h0:0<=a)(h1:a<s.F.length):(label (s.at a)).length<=8:=by
 have:=h.2.2.2 ((s.F.length:Int)-1-a) (by omega) (by omega);unfold label St.at
 split
 ·exact this.1
 ·exact this.2
theorem bG.calls{t n:Nat}{s:St}(h:bG t n s)(E:Env)(i:aW)(r8:((aM E.M i.f1).getD cv).f1.length<=8)(hl:t+8<=1000000):bG (t+8) n (s.calls E i):=by
 unfold St.calls;dsimp only
 split
 ·exact(h.pop _).push _ 8 r8 hl
 ·exact(((h.pop _).err _).die).mono (by omega) (aU _)
theorem bG.places{t n:Nat}{s:St}(h:bG t n s)(E:Env)(i:aW)(hl:t+8<=1000000):bG (t+8) n (s.places E i):=by
 unfold St.places
 (repeat' split)
 ·exact h.push _ 8 (by simp) hl
 ·exact(h.pop _).mono (by omega) (aU _)
 ·exact(h.pop _).push _ 8 (by simp) hl
 ·exact h.push _ 8 (by simp) hl
 ·exact((h.pop _).err _).mono (by omega) (aU _)
 ·exact h.mono (by omega) (aU _)
theorem OH(s:St)(zs:List Int):(s.look zs).1.F=s.F:=by rw[<-pH];exact nk _ _
theorem bG.look{t n:Nat}{s:St}(h:bG t n s)(zs:List Int)(hz:zs.length<=8)(hh:s.top.f2.toNat+8<=t)(hl:t<=1000000):bG t n ((s.look zs).1.back (s.look zs).2):=by
 have hF:=OH s zs;have hI:cq (s.look zs).1:=by rw[<-pH];exact pI h.1 _
 have hT:(s.look zs).1.T.length+(s.look zs).2.length<=max s.T.length (s.top.f2.toNat+8):=by
  rw[<-pH];have:=(Fy h.1 (Bk.upto (Bk.at_ zs) zs.length)).1;rw[Bk.qT]at this;rw[th,Bk.qT];omega
 have h2:=h.2.1;have hP:bG ((s.look zs).1.T.length) n (s.look zs).1:=⟨hI,aU _,by rw[hF];exact h.2.2.1,by rw[hF];exact h.2.2.2⟩;exact(hP.push (s.look zs).2.reverse ((s.look zs).2.length) (by simp) (by omega)).mono (by omega) (aU _)
theorem U3(s:St)(zs l:List Int):((s.look zs).1.back l).F=s.F:=OH s zs
theorem bG.labels{t n:Nat}(m:Nat)(hl:t<=1000000): ∀(l:List Int) {s:St} (h:bG t n s) (hh:s.top.f2.toNat+8<=t) (hr: ∀x,x∈l->0<=x/\x<s.F.length),bG t n (s.labels m l).1/\(s.labels m l).1.F=s.F
 | [],s,h,_,_=>⟨h,rfl⟩
 |x::l,s,h,hh,hr=>by
  have hx:=hr x (jy ..);have h8:=h.at8 x hx.1 hx.2;unfold St.labels
  split
  ·exact⟨h.bad true,rfl⟩
  ·have h2:=h.look (label (s.at x)) h8 hh hl
   have hF:=U3 s (label (s.at x)) (s.look (label (s.at x))).2;have ht:((s.look (label (s.at x))).1.back (s.look (label (s.at x))).2).top=s.top:=by unfold St.top;rw[hF]
   have:=bG.labels m hl l h2 (by rw[ht];exact hh) (fun y hy=>by rw[hF];exact hr y (List.mem_cons_of_mem _ hy));exact⟨this.1,this.2.trans hF⟩
theorem bG.table{t n:Nat}{s:St}(h:bG t n s)(l:List Int)(hl:t+8<=1000000)(hr: ∀x,x∈l->0<=x/\x<s.F.length):bG (t+8) n (s.table l):=by
 unfold St.table;dsimp only
 split
 ·exact((h.pop _).bad true).mono (by omega) (aU _)
 ·have h1:bG (t+8) n (s.pop [127]):=(h.pop [127]).mono (by omega) (aU _)
  have ht:=zy (h.pop [127]).1;have ht2:=(h.pop [127]).2.1;have h2:=bG.labels (label ((s.pop [127]).at (rd l ((l.length:Int)-1)))).length hl l h1 (by omega) (fun x hx=>by rw[uA];exact hr x hx)
  split
  ·exact(h2.1.pop _).die
  ·exact h2.1
theorem bG.branches{t n:Nat}{s:St}(h:bG t n s)(E:Env)(i:aW)(hl:t+8<=1000000)(sg:i.f0=13->0<=i.f1/\i.f1<s.F.length)(hr:i.f0=14-> ∀x,x∈i.f4->0<=x/\x<s.F.length):bG (t+8) n (s.branches E i):=by
 unfold St.branches
 split
 ·exact(h.pop _).die.mono (by omega) (aU _)
 ·split
  ·rename_i e;exact((h.pop _).pop _).push _ 8 (h.at8 _ (sg e).1 (sg e).2) hl
  ·split
   ·rename_i e;exact h.table _ hl (hr e)
   ·exact(h.pop _).die.mono (by omega) (aU _)
structure jI(E:Env):Prop where
 right:jM E.M
 r8:E.S.f1.length<=8
theorem jI.sig{E:Env}(h:jI E)(a:Int):((aM E.M a).getD cv).f0.length<=8/\((aM E.M a).getD cv).f1.length<=8:=by
 cases e:aM E.M a with
 |none=>simp[cv]
 |some t=>have:=mQ (vP h.right e);exact⟨this.1,this.2.1⟩
theorem jI.block{E:Env}(h:jI E)(a:Int):((aQ E.M a).getD cv).f0.length<=8/\((aQ E.M a).getD cv).f1.length<=8:=by
 unfold aQ
 (repeat' split)
 all_goals first
  |(simp[cv];done)
  |(rename_i hr;have:=mQ (h.right.ty a.toNat (by omega));rw[show((a.toNat:Nat):Int)=a by omega]at this;exact⟨this.1,this.2.1⟩)
theorem lN{n m:Int}(h:there n m=true):0<=n/\n<m:=of_decide_eq_true h
theorem Ib{L:List Int}{m:Int}(h:(!L.any (fun n=> !there n m))=true)(x:Int)(hx:x∈L):0<=x/\x<m:=by
 simp only[Bool.not_eq_true',List.any_eq_false,Bool.not_eq_true,Bool.not_eq_false']at h;exact lN (by have:=h x hx;simpa using this)
theorem eV{i:aW}(h:fD i=true)(mL:i.f0=14):i.f4.length<=17:=by
 unfold fD at h;simp only[Bool.and_eq_true]at h;have hs:=h.2.1;unfold lF at hs;have e1:opens i.f0=false:=by rw[mL];rfl
 have e2:eD i.f0=false:=by rw[mL];rfl
 rw[if_neg (by simp[e1]),if_neg (by simp[e2]),if_neg (by rw[mL];decide),if_neg (by omega),if_pos mL]at hs;simp only[Bool.and_eq_true,decide_eq_true_eq]at hs;omega
end Sp
theorem U4(l:List Int)(k:Nat)(hk:k<l.length):rd l (k:Int)∈l:=by
 have e:rd l (k:Int)=l[k]:=by simp[rd,gq,hk]
 rw[e];exact List.getElem_mem hk
theorem OI(E:Sp.Env)(kj:Sp.jI E)(i:aW)(hi:Sp.fD i=true)(h:i.f0=2):eW E i:=by
 intro k w base g cs vL v1 v2 s vT vF A c hS hE hI hk hkn hL;have hb:=Sp.dA hi;have gp:=Sp.eV hi;have hN:=Sp.dS hI;obtain⟨op,a,b,n,L⟩:=i;dsimp only at h hb hL gp⊢;subst h;have hT:s.T.length+8<=1000000:=by have:=hI.2.1;omega
 have hX:=aI hS (av 2 a b n (.slice A L.length c));have hY:=aC hE (af (ay _ _) (av 2 a b n (.slice A L.length c)));have e:s.step E ⟨2,a,b,n,L⟩=s.open_ 2 ((Sp.aQ E.M a).getD cv):=rfl;rw[e];exact⟨UI w base g _ _ _ vT vF a b n A _ c _ 2 rfl (zC _ base g E cs vL v1 v2 s vT vF hX hY hI.1 hT a b n A _ c 2 (iV kj.right) (kj.block a).1 (kj.block a).2),Sp.eB ((hN.open_ 2 _ (by omega) (by omega) (kj.block a).1 (kj.block a).2).mono (by omega) (by omega))⟩
theorem OJ(E:Sp.Env)(kj:Sp.jI E)(i:aW)(hi:Sp.fD i=true)(h:i.f0=3):eW E i:=by
 intro k w base g cs vL v1 v2 s vT vF A c hS hE hI hk hkn hL;have hb:=Sp.dA hi;have gp:=Sp.eV hi;have hN:=Sp.dS hI;obtain⟨op,a,b,n,L⟩:=i;dsimp only at h hb hL gp⊢;subst h;have hT:s.T.length+8<=1000000:=by have:=hI.2.1;omega
 have hX:=aI hS (av 3 a b n (.slice A L.length c));have hY:=aC hE (af (ay _ _) (av 3 a b n (.slice A L.length c)));have e:s.step E ⟨3,a,b,n,L⟩=s.open_ 3 ((Sp.aQ E.M a).getD cv):=rfl;rw[e];exact⟨UJ w base g _ _ _ vT vF a b n A _ c _ 3 rfl (zC _ base g E cs vL v1 v2 s vT vF hX hY hI.1 hT a b n A _ c 3 (iV kj.right) (kj.block a).1 (kj.block a).2),Sp.eB ((hN.open_ 3 _ (by omega) (by omega) (kj.block a).1 (kj.block a).2).mono (by omega) (by omega))⟩
theorem OL(E:Sp.Env)(kj:Sp.jI E)(i:aW)(hi:Sp.fD i=true)(h:i.f0=4):eW E i:=by
 intro k w base g cs vL v1 v2 s vT vF A c hS hE hI hk hkn hL;have hb:=Sp.dA hi;have gp:=Sp.eV hi;have hN:=Sp.dS hI;obtain⟨op,a,b,n,L⟩:=i;dsimp only at h hb hL gp⊢;subst h;have hT:s.T.length+8<=1000000:=by have:=hI.2.1;omega
 have hX:=aI hS (av 4 a b n (.slice A L.length c));have hY:=aC hE (af (ay _ _) (av 4 a b n (.slice A L.length c)));have e:s.step E ⟨4,a,b,n,L⟩=s.open_ 4 ((Sp.aQ E.M a).getD cv):=rfl;rw[e];exact⟨UK w base g _ _ _ vT vF a b n A _ c _ 4 rfl (zC _ base g E cs vL v1 v2 s vT vF hX hY hI.1 hT a b n A _ c 4 (iV kj.right) (kj.block a).1 (kj.block a).2),Sp.eB ((hN.open_ 4 _ (by omega) (by omega) (kj.block a).1 (kj.block a).2).mono (by omega) (by omega))⟩
theorem OM(E:Sp.Env)(kj:Sp.jI E)(i:aW)(hi:Sp.fD i=true)(h:i.f0=5):eW E i:=by
 intro k w base g cs vL v1 v2 s vT vF A c hS hE hI hk hkn hL;have hb:=Sp.dA hi;have gp:=Sp.eV hi;have hN:=Sp.dS hI;obtain⟨op,a,b,n,L⟩:=i;dsimp only at h hb hL gp⊢;subst h;have hT:s.T.length+8<=1000000:=by have:=hI.2.1;omega
 have hX:=aI hS (av 5 a b n (.slice A L.length c));have hY:=aC hE (af (ay _ _) (av 5 a b n (.slice A L.length c)));have e:s.step E ⟨5,a,b,n,L⟩=s.other:=rfl;rw[e];exact⟨UL w base g _ _ _ vT vF a b n A _ c _ 5 rfl (Dk _ base g _ _ s vT vF hX hI.1 (by have h8:=hN.leave.2.1;have h9:=hN.Fi;omega)),Sp.eB ((hN.other (by omega)).mono (by omega) (by omega))⟩
theorem Le(E:Sp.Env)(kj:Sp.jI E)(i:aW)(hi:Sp.fD i=true)(h:i.f0=27):eW E i:=by
 intro k w base g cs vL v1 v2 s vT vF A c hS hE hI hk hkn hL;have hb:=Sp.dA hi;have gp:=Sp.eV hi;have hN:=Sp.dS hI;obtain⟨op,a,b,n,L⟩:=i;dsimp only at h hb hL gp⊢;subst h;have hT:s.T.length+8<=1000000:=by have:=hI.2.1;omega
 have hX:=aI hS (av 27 a b n (.slice A L.length c));have hY:=aC hE (af (ay _ _) (av 27 a b n (.slice A L.length c)));have e:s.step E ⟨27,a,b,n,L⟩=s.chosen:=rfl;rw[e];exact⟨RI w base g _ _ _ vT vF a b n A _ c _ 27 rfl (A8 _ base g _ _ s vT vF hX hI.1 hT),Sp.eB ((hN.chosen (by omega)).mono (by omega) (by omega))⟩
theorem Lf(E:Sp.Env)(kj:Sp.jI E)(i:aW)(hi:Sp.fD i=true)(h:i.f0=12):eW E i:=by
 intro k w base g cs vL v1 v2 s vT vF A c hS hE hI hk hkn hL;have hb:=Sp.dA hi;have gp:=Sp.eV hi;have hN:=Sp.dS hI;obtain⟨op,a,b,n,L⟩:=i;dsimp only at h hb hL gp⊢;subst h;have hT:s.T.length+8<=1000000:=by have:=hI.2.1;omega
 have hX:=aI hS (av 12 a b n (.slice A L.length c));have hY:=aC hE (af (ay _ _) (av 12 a b n (.slice A L.length c)));have e:s.step E ⟨12,a,b,n,L⟩=s.branches E ⟨12,a,b,n,L⟩:=rfl;have hr:=Sp.lN (show Sp.there a s.F.length=true from hkn);rw[e];exact⟨Ry w base g _ _ _ vT vF a b n A _ c _ 12 rfl (FC _ base g _ _ s vT vF hX hI.1 hT a b n A _ c hr.1 hr.2 (hN.at8 a hr.1 hr.2)),Sp.eB ((hN.branches E _ (by omega) (fun _=>hr) (fun h=>by cases h)).mono (by omega) (by omega))⟩
theorem Lg(E:Sp.Env)(kj:Sp.jI E)(i:aW)(hi:Sp.fD i=true)(h:i.f0=13):eW E i:=by
 intro k w base g cs vL v1 v2 s vT vF A c hS hE hI hk hkn hL;have hb:=Sp.dA hi;have gp:=Sp.eV hi;have hN:=Sp.dS hI;obtain⟨op,a,b,n,L⟩:=i;dsimp only at h hb hL gp⊢;subst h;have hT:s.T.length+8<=1000000:=by have:=hI.2.1;omega
 have hX:=aI hS (av 13 a b n (.slice A L.length c));have hY:=aC hE (af (ay _ _) (av 13 a b n (.slice A L.length c)));have e:s.step E ⟨13,a,b,n,L⟩=s.branches E ⟨13,a,b,n,L⟩:=rfl;have hr:=Sp.lN (show Sp.there a s.F.length=true from hkn);rw[e];exact⟨RA w base g _ _ _ vT vF a b n A _ c _ 13 rfl (FE _ base g _ _ s vT vF hX hI.1 hT a b n A _ c hr.1 hr.2 (hN.at8 a hr.1 hr.2)),Sp.eB ((hN.branches E _ (by omega) (fun _=>hr) (fun h=>by cases h)).mono (by omega) (by omega))⟩
theorem Lh(E:Sp.Env)(kj:Sp.jI E)(i:aW)(hi:Sp.fD i=true)(h:i.f0=14):eW E i:=by
 intro k w base g cs vL v1 v2 s vT vF A c hS hE hI hk hkn hL;have hb:=Sp.dA hi;have gp:=Sp.eV hi;have hN:=Sp.dS hI;obtain⟨op,a,b,n,L⟩:=i;dsimp only at h hb hL gp⊢;subst h;have hT:s.T.length+8<=1000000:=by have:=hI.2.1;omega
 have hX:=aI hS (av 14 a b n (.slice A L.length c));have hY:=aC hE (af (ay _ _) (av 14 a b n (.slice A L.length c)));have e:s.step E ⟨14,a,b,n,L⟩=s.branches E ⟨14,a,b,n,L⟩:=rfl;have hr:=Sp.Ib (show(!L.any (fun n=> !Sp.there n s.F.length))=true from hkn);rw[e];exact⟨RB w base g _ _ _ vT vF a b n A _ c _ 14 rfl (FD _ base g _ _ s vT vF hX hI.1 hT a b n A L c (hL.up (dc hE) (af (ay _ _) _)) (by have:=gp rfl;omega) (fun k hk=>hr _ (U4 L k hk)) hN.2.2.2),Sp.eB ((hN.branches E _ (by omega) (fun h=>by cases h) (fun _=>hr)).mono (by omega) (by omega))⟩
theorem Li(E:Sp.Env)(kj:Sp.jI E)(i:aW)(hi:Sp.fD i=true)(h:i.f0=15):eW E i:=by
 intro k w base g cs vL v1 v2 s vT vF A c hS hE hI hk hkn hL;have hb:=Sp.dA hi;have gp:=Sp.eV hi;have hN:=Sp.dS hI;obtain⟨op,a,b,n,L⟩:=i;dsimp only at h hb hL gp⊢;subst h;have hT:s.T.length+8<=1000000:=by have:=hI.2.1;omega
 have hX:=aI hS (av 15 a b n (.slice A L.length c));have hY:=aC hE (af (ay _ _) (av 15 a b n (.slice A L.length c)));have e:s.step E ⟨15,a,b,n,L⟩=s.branches E ⟨15,a,b,n,L⟩:=rfl;rw[e];exact⟨RD w base g _ _ _ vT vF a b n A _ c _ 15 rfl (FH _ base g E cs vL v1 v2 s vT vF hX hY hI.1 hT a b n A _ c kj.r8),Sp.eB ((hN.branches E _ (by omega) (fun h=>by cases h) (fun h=>by cases h)).mono (by omega) (by omega))⟩
theorem Lj(E:Sp.Env)(kj:Sp.jI E)(i:aW)(hi:Sp.fD i=true)(h:i.f0=16):eW E i:=by
 intro k w base g cs vL v1 v2 s vT vF A c hS hE hI hk hkn hL;have hb:=Sp.dA hi;have gp:=Sp.eV hi;have hN:=Sp.dS hI;obtain⟨op,a,b,n,L⟩:=i;dsimp only at h hb hL gp⊢;subst h;have hT:s.T.length+8<=1000000:=by have:=hI.2.1;omega
 have hX:=aI hS (av 16 a b n (.slice A L.length c));have hY:=aC hE (af (ay _ _) (av 16 a b n (.slice A L.length c)));have e:s.step E ⟨16,a,b,n,L⟩=s.calls E ⟨16,a,b,n,L⟩:=rfl;rw[e];exact⟨RF w base g _ _ _ vT vF a b n A _ c _ 16 rfl (Oh _ base g E cs vL v1 v2 s vT vF hX hY hI.1 hT a b n A _ c (iV kj.right) (by have:=kj.right.n12;omega) (by have:=kj.right.n12;omega) hb.1 hb.2.1 (kj.sig a).1 (kj.sig a).2),Sp.eB ((hN.calls E _ (kj.sig a).2 (by omega)).mono (by omega) (by omega))⟩
theorem Lk(E:Sp.Env)(kj:Sp.jI E)(i:aW)(hi:Sp.fD i=true)(h:i.f0=18):eW E i:=by
 intro k w base g cs vL v1 v2 s vT vF A c hS hE hI hk hkn hL;have hb:=Sp.dA hi;have gp:=Sp.eV hi;have hN:=Sp.dS hI;obtain⟨op,a,b,n,L⟩:=i;dsimp only at h hb hL gp⊢;subst h;have hT:s.T.length+8<=1000000:=by have:=hI.2.1;omega
 have hX:=aI hS (av 18 a b n (.slice A L.length c));have hY:=aC hE (af (ay _ _) (av 18 a b n (.slice A L.length c)));have e:s.step E ⟨18,a,b,n,L⟩=s.calls E ⟨18,a,b,n,L⟩:=rfl;rw[e];exact⟨RG w base g _ _ _ vT vF a b n A _ c _ 18 rfl (Ol _ base g E cs vL v1 v2 s vT vF hX hY hI.1 hT a b n A _ c (iV kj.right) (by have:=kj.right.n12;omega) (by have:=kj.right.n12;omega) hb.1 hb.2.1 (kj.sig a).1 (kj.sig a).2),Sp.eB ((hN.calls E _ (kj.sig a).2 (by omega)).mono (by omega) (by omega))⟩
theorem Ll(E:Sp.Env)(kj:Sp.jI E)(i:aW)(hi:Sp.fD i=true)(h:i.f0=32):eW E i:=by
 intro k w base g cs vL v1 v2 s vT vF A c hS hE hI hk hkn hL;have hb:=Sp.dA hi;have gp:=Sp.eV hi;have hN:=Sp.dS hI;obtain⟨op,a,b,n,L⟩:=i;dsimp only at h hb hL gp⊢;subst h;have hT:s.T.length+8<=1000000:=by have:=hI.2.1;omega
 have hX:=aI hS (av 32 a b n (.slice A L.length c));have hY:=aC hE (af (ay _ _) (av 32 a b n (.slice A L.length c)));have e:s.step E ⟨32,a,b,n,L⟩=s.places E ⟨32,a,b,n,L⟩:=rfl;have hr:=Sp.lN (show Sp.there a E.L.length=true from hkn);rw[e];exact⟨RJ w base g _ _ _ vT vF a b n A _ c _ 32 rfl (KT _ base g E cs vL v1 v2 s vT vF hX hY hI.1 hT a b n A _ c hr.1 hr.2),Sp.eB ((hN.places E _ (by omega)).mono (by omega) (by omega))⟩
theorem Lm(E:Sp.Env)(kj:Sp.jI E)(i:aW)(hi:Sp.fD i=true)(h:i.f0=33):eW E i:=by
 intro k w base g cs vL v1 v2 s vT vF A c hS hE hI hk hkn hL;have hb:=Sp.dA hi;have gp:=Sp.eV hi;have hN:=Sp.dS hI;obtain⟨op,a,b,n,L⟩:=i;dsimp only at h hb hL gp⊢;subst h;have hT:s.T.length+8<=1000000:=by have:=hI.2.1;omega
 have hX:=aI hS (av 33 a b n (.slice A L.length c));have hY:=aC hE (af (ay _ _) (av 33 a b n (.slice A L.length c)));have e:s.step E ⟨33,a,b,n,L⟩=s.places E ⟨33,a,b,n,L⟩:=rfl;have hr:=Sp.lN (show Sp.there a E.L.length=true from hkn);rw[e];exact⟨RM w base g _ _ _ vT vF a b n A _ c _ 33 rfl (KU _ base g E cs vL v1 v2 s vT vF hX hY hI.1 hT a b n A _ c hr.1 hr.2),Sp.eB ((hN.places E _ (by omega)).mono (by omega) (by omega))⟩
theorem Ln(E:Sp.Env)(kj:Sp.jI E)(i:aW)(hi:Sp.fD i=true)(h:i.f0=34):eW E i:=by
 intro k w base g cs vL v1 v2 s vT vF A c hS hE hI hk hkn hL;have hb:=Sp.dA hi;have gp:=Sp.eV hi;have hN:=Sp.dS hI;obtain⟨op,a,b,n,L⟩:=i;dsimp only at h hb hL gp⊢;subst h;have hT:s.T.length+8<=1000000:=by have:=hI.2.1;omega
 have hX:=aI hS (av 34 a b n (.slice A L.length c));have hY:=aC hE (af (ay _ _) (av 34 a b n (.slice A L.length c)));have e:s.step E ⟨34,a,b,n,L⟩=s.places E ⟨34,a,b,n,L⟩:=rfl;have hr:=Sp.lN (show Sp.there a E.L.length=true from hkn);rw[e];exact⟨RN w base g _ _ _ vT vF a b n A _ c _ 34 rfl (KV _ base g E cs vL v1 v2 s vT vF hX hY hI.1 hT a b n A _ c hr.1 hr.2),Sp.eB ((hN.places E _ (by omega)).mono (by omega) (by omega))⟩
theorem Lp(E:Sp.Env)(kj:Sp.jI E)(i:aW)(hi:Sp.fD i=true)(h:i.f0=35):eW E i:=by
 intro k w base g cs vL v1 v2 s vT vF A c hS hE hI hk hkn hL;have hb:=Sp.dA hi;have gp:=Sp.eV hi;have hN:=Sp.dS hI;obtain⟨op,a,b,n,L⟩:=i;dsimp only at h hb hL gp⊢;subst h;have hT:s.T.length+8<=1000000:=by have:=hI.2.1;omega
 have hX:=aI hS (av 35 a b n (.slice A L.length c));have hY:=aC hE (af (ay _ _) (av 35 a b n (.slice A L.length c)));have e:s.step E ⟨35,a,b,n,L⟩=s.places E ⟨35,a,b,n,L⟩:=rfl;have hr:=Sp.lN (show Sp.there a E.M.f4.length=true from hkn);rw[e];exact⟨RO w base g _ _ _ vT vF a b n A _ c _ 35 rfl (KW _ base g E cs vL v1 v2 s vT vF hX hY hI.1 hT a b n A _ c hr.1 hr.2),Sp.eB ((hN.places E _ (by omega)).mono (by omega) (by omega))⟩
theorem Lq(E:Sp.Env)(kj:Sp.jI E)(i:aW)(hi:Sp.fD i=true)(h:i.f0=36):eW E i:=by
 intro k w base g cs vL v1 v2 s vT vF A c hS hE hI hk hkn hL;have hb:=Sp.dA hi;have gp:=Sp.eV hi;have hN:=Sp.dS hI;obtain⟨op,a,b,n,L⟩:=i;dsimp only at h hb hL gp⊢;subst h;have hT:s.T.length+8<=1000000:=by have:=hI.2.1;omega
 have hX:=aI hS (av 36 a b n (.slice A L.length c));have hY:=aC hE (af (ay _ _) (av 36 a b n (.slice A L.length c)));have e:s.step E ⟨36,a,b,n,L⟩=s.places E ⟨36,a,b,n,L⟩:=rfl;have hr:=Sp.lN (show Sp.there a E.M.f4.length=true from hkn);rw[e];exact⟨RP w base g _ _ _ vT vF a b n A _ c _ 36 rfl (KX _ base g E cs vL v1 v2 s vT vF hX hY hI.1 hT a b n A _ c hr.1 hr.2),Sp.eB ((hN.places E _ (by omega)).mono (by omega) (by omega))⟩
theorem U5(E:Sp.Env)(kj:Sp.jI E)(i:aW)(hi:Sp.fD i=true):eW E i:=by
 by_cases h0:i.f0=0
 ·exact Fj E i h0
 by_cases h2:i.f0=2
 ·exact OI E kj i hi h2
 by_cases h3:i.f0=3
 ·exact OJ E kj i hi h3
 by_cases h4:i.f0=4
 ·exact OL E kj i hi h4
 by_cases h5:i.f0=5
 ·exact OM E kj i hi h5
 by_cases h11:i.f0=11
 ·exact BW E i h11
 by_cases h12:i.f0=12
 ·exact Lf E kj i hi h12
 by_cases sg:i.f0=13
 ·exact Lg E kj i hi sg
 by_cases mL:i.f0=14
 ·exact Lh E kj i hi mL
 by_cases RT:i.f0=15
 ·exact Li E kj i hi RT
 by_cases qp:i.f0=16
 ·exact Lj E kj i hi qp
 by_cases vh:i.f0=18
 ·exact Lk E kj i hi vh
 by_cases Tk:i.f0=26
 ·exact BV E i Tk
 by_cases X3:i.f0=27
 ·exact Le E kj i hi X3
 by_cases AA:i.f0=32
 ·exact Ll E kj i hi AA
 by_cases BI:i.f0=33
 ·exact Lm E kj i hi BI
 by_cases CS:i.f0=34
 ·exact Ln E kj i hi CS
 by_cases DV:i.f0=35
 ·exact Lp E kj i hi DV
 by_cases Ad:i.f0=36
 ·exact Lq E kj i hi Ad
 exact uF E i h0 h2 h3 h4 h5 h11 h12 sg mL RT qp vh Tk X3 AA BI CS DV Ad
theorem oy(M:bL)(cs:List Value)(p:Int)(w:World)(hM:bZ.K w M cs)(n1:M.f1.length<=140737488355328)(n2:M.f2.length<=140737488355328)(hsz: ∀i:Int,(cu M.f5 i).f0.size<=maxLen):
 Calls prog 18 #[.agg cs.toArray,.int .i64 p] w (lg (Sp.b9 M p) w):=
 lZ M cs p w hM n1 n2 hsz (fun hk _ hi j hj k hk2=>by
  obtain⟨t,ht⟩:=Sp.FI hi j hj;have h8:=Sp.mQ (Sp.vP hk ht);have e:Sp.uI M j=⟨M,t.f0++(aF M.f2 (j:Int)).f1,t⟩:=by unfold Sp.uI;rw[ht];rfl
  exact U5 _ (by rw[e];exact⟨hk,h8.2.1⟩) _ ((Sp.rU (hk.fn j hj)).2.2.2.2.2 k hk2))
end Go.Proofs.YthehihjcpiadgaaGreat
end
namespace Go.Proofs.YthehihjcpiadgaaGreat
open Go.RowKit Go.Proofs.Wz.PrintWords
namespace Sp
theorem vQ{g:Nat->Int}: ∀(n k:Nat),dR g n k=0-> ∀j:Nat,k<=j->j<k+n->g j=0
 |0,_,_,j,h0,h1=>by omega
 |n+1,k,h,j,h0,h1=>by
  change (if g k=0 then dR g n (k+1)else g k)=0 at h
  by_cases e:g k=0
  ·rw[if_pos e]at h
   by_cases ej:j=k
   ·rw[ej];exact e
   ·exact vQ n (k+1) h j (by omega) (by omega)
  ·rw[if_neg e]at h;exact absurd h e
theorem tj{g:Nat->Int}: ∀(n k:Nat),(∀j:Nat,k<=j->j<k+n->g j=0)->dR g n k=0
 |0,_,_=>rfl
 |n+1,k,h=>by
  show(if g k=0 then dR g n (k+1)else g k)=0
  rw[if_pos (h k (by omega) (by omega))];exact tj n (k+1) (fun j h0 h1=>h j (by omega) (by omega))
theorem Lr{s:St}{E:Env}{i:aW}(h:s.dQ E true i=0):s.dQ E false i=0:=by
 unfold St.dQ at h⊢;rw[Bool.true_and]at h;rw[Bool.false_and,if_neg (by simp)];by_cases e:uz i=true
 ·rw[if_pos e]at h;exact absurd h (by decide)
 ·rw[if_neg e]at h;exact h
theorem BX(E:Env): ∀(l:List aW) (k:Nat) (s:St),(run E true l k s).2=0->(run E false l k s).2=0
 | [],_,_,_=>rfl
 |i::l,k,s,h=>by
  change (if s.dQ E true i=0 then run E true l (k+1) (s.step E i)else((k:Int),s.dQ E true i)).2=0 at h
  show(if s.dQ E false i=0 then run E false l (k+1) (s.step E i)else((k:Int),s.dQ E false i)).2=0
  by_cases e:s.dQ E true i=0
  ·rw[if_pos e]at h;rw[if_pos (Lr e)];exact BX E l (k+1) _ h
  ·rw[if_neg e]at h;exact absurd h e
theorem FJ{M:bL}(h:b9 M 1=0):b9 M 2=0:=by
 unfold b9 at h⊢;rw[if_neg (by decide)]at h⊢;by_cases h1:right M≠0
 ·rw[if_pos h1]at h;exact absurd h h1
 by_cases h2:gh M≠0
 ·rw[if_neg h1,if_pos h2]at h;exact absurd h h2
 rw[if_neg h1,if_neg h2]at h⊢;unfold eP at h⊢;by_cases h3:(!indices M)=true
 ·rw[if_pos h3]at h;exact absurd h (by decide)
 rw[if_neg h3]at h⊢;by_cases h4:(decide ((1:Int)=1)&& !iI M)=true
 ·rw[if_pos h4]at h;exact absurd h (by decide)
 rw[if_neg h4]at h;rw[if_neg (by simp)];have ha:=vQ _ _ h;exact tj _ _ (fun j h0 h9=>BX _ _ _ _ (ha j h0 h9))
def more(M:bL):bL:=⟨M.f0,M.f1,M.f2,M.f3,M.f4++ [⟨124,false,0⟩],[],M.f6,[⟨⟨#[109,111,114,101]⟩,[]⟩]⟩
def Env.more(E:Env):Env:=⟨Sp.more E.M,E.L,E.S⟩
theorem Ls{M:bL}{a:Int}(h:there a M.f4.length=true):dg (more M).f4 a=dg M.f4 a:=by
 have:=(of_decide_eq_true h:0<=a/\a<(M.f4.length:Int));show dg (M.f4++ [⟨124,false,0⟩]) a=_
 unfold dg;rw[gq,List.getElem?_append_left (by omega),gq]
theorem Ic{M:bL}{a:Int}(h:there a M.f4.length=true):there a (more M).f4.length=true:=by
 have:=(of_decide_eq_true h:0<=a/\a<(M.f4.length:Int));show there a ((M.f4++ [(⟨124,false,0⟩:dV)]).length:Int)=true
 exact iz (by simp;omega)
theorem Ie{s:St}{E:Env}{i:aW}(h:s.known E i=true):s.known E.more i=true:=by
 unfold St.known at h⊢;by_cases c0:opens i.f0=true
 ·rw[if_pos c0]at h⊢;exact h
 rw[if_neg c0]at h⊢;by_cases c1:eD i.f0=true
 ·rw[if_pos c1]at h⊢;exact h
 rw[if_neg c1]at h⊢;by_cases c2:i.f0=12\/i.f0=13
 ·rw[if_pos c2]at h⊢;exact h
 rw[if_neg c2]at h⊢;by_cases c3:i.f0=14
 ·rw[if_pos c3]at h⊢;exact h
 rw[if_neg c3]at h⊢;by_cases c4:i.f0=16\/i.f0=18
 ·rw[if_pos c4]at h⊢;exact h
 rw[if_neg c4]at h⊢;by_cases c5:32<=i.f0/\i.f0<=34
 ·rw[if_pos c5]at h⊢;exact h
 rw[if_neg c5]at h⊢;by_cases c6:i.f0=35\/i.f0=36
 ·rw[if_pos c6]at h⊢;exact Ic h
 rw[if_neg c6]at h⊢;by_cases c7:i.f0=63\/i.f0=64\/i.f0=64523
 ·rw[if_pos c7]at h⊢;exact h
 rw[if_neg c7]at h⊢;by_cases c8:i.f0=64520
 ·rw[if_pos c8]at h⊢;exact h
 rw[if_neg c8]at h⊢;by_cases c9:i.f0=64521
 ·rw[if_pos c9]at h⊢;exact h
 rw[if_neg c9]at h⊢;by_cases c10:i.f0=64522
 ·rw[if_pos c10]at h⊢;exact h
 rw[if_neg c10]at h⊢
theorem Ig{s:St}{E:Env}{i:aW}(h:s.known E i=true)(c:i.f0=35\/i.f0=36):there i.f1 E.M.f4.length=true:=by
 unfold St.known at h;have e1:opens i.f0=false:=by rcases c with c|c<;>rw[c]<;>rfl
 have e2:eD i.f0=false:=by rcases c with c|c<;>rw[c]<;>rfl
 rw[if_neg (by simp[e1]),if_neg (by simp[e2]),if_neg (by omega),if_neg (by omega),if_neg (by omega),if_neg (by omega),if_pos c]at h;exact h
theorem FL{s:St}{E:Env}{i:aW}(h:s.known E i=true)(c:32<=i.f0/\i.f0<=36):s.places E.more i=s.places E i:=by
 unfold St.places;by_cases c0:i.f0=32
 ·rw[if_pos c0,if_pos c0];rfl
 rw[if_neg c0,if_neg c0];by_cases c1:i.f0=33
 ·rw[if_pos c1,if_pos c1];rfl
 rw[if_neg c1,if_neg c1];by_cases c2:i.f0=34
 ·rw[if_pos c2,if_pos c2];rfl
 rw[if_neg c2,if_neg c2];have e:dg E.more.M.f4 i.f1=dg E.M.f4 i.f1:=Ls (Ig h (by omega));rw[e]
theorem Lt{s:St}{E:Env}{i:aW}(h:s.known E i=true):s.step E.more i=s.step E i:=by
 unfold St.step;by_cases c0:i.f0=0
 ·rw[if_pos c0,if_pos c0]
 rw[if_neg c0,if_neg c0];by_cases c1:opens i.f0=true
 ·rw[if_pos c1,if_pos c1];rfl
 rw[if_neg c1,if_neg c1];by_cases c2:i.f0=5
 ·rw[if_pos c2,if_pos c2]
 rw[if_neg c2,if_neg c2];by_cases c3:i.f0=11
 ·rw[if_pos c3,if_pos c3]
 rw[if_neg c3,if_neg c3];by_cases c4:i.f0=12\/i.f0=13\/i.f0=14\/i.f0=15
 ·rw[if_pos c4,if_pos c4];rfl
 rw[if_neg c4,if_neg c4];by_cases c5:i.f0=16\/i.f0=18
 ·rw[if_pos c5,if_pos c5];rfl
 rw[if_neg c5,if_neg c5];by_cases c6:i.f0=26
 ·rw[if_pos c6,if_pos c6]
 rw[if_neg c6,if_neg c6];by_cases c7:i.f0=27
 ·rw[if_pos c7,if_pos c7]
 rw[if_neg c7,if_neg c7];by_cases c8:32<=i.f0/\i.f0<=36
 ·rw[if_pos c8,if_pos c8];exact FL h c8
 rw[if_neg c8,if_neg c8]
theorem FM{s:St}{E:Env}{i:aW}(h:s.dQ E false i=0):s.dQ E.more false i=0/\s.step E.more i=s.step E i:=by
 unfold St.dQ at h⊢;rw[Bool.false_and,if_neg (by simp)]at h⊢;by_cases e:s.known E i=true
 ·rw[if_neg (by simp[e])]at h
  rw[if_neg (by simp[Ie e]),Lt e];exact⟨h,rfl⟩
 ·rw[if_pos (by simp[e])]at h;exact absurd h (by decide)
theorem FN(E:Env): ∀(l:List aW) (k:Nat) (s:St),(run E false l k s).2=0->(run E.more false l k s).2=0
 | [],_,_,_=>rfl
 |i::l,k,s,h=>by
  change (if s.dQ E false i=0 then run E false l (k+1) (s.step E i)else((k:Int),s.dQ E false i)).2=0 at h
  show(if s.dQ E.more false i=0 then run E.more false l (k+1) (s.step E.more i)else((k:Int),s.dQ E.more false i)).2=0
  by_cases e:s.dQ E false i=0
  ·rw[if_pos e]at h;rw[if_pos (FM e).1,(FM e).2];exact FN E l (k+1) _ h
  ·rw[if_neg e]at h;exact absurd h e
theorem Ih{M:bL}(h:right M=0)(hl:M.f4.length+1<=256):right (more M)=0:=by
 have hc:([⟨⟨#[109,111,114,101]⟩,[]⟩]:List jA).all custom=true:=by decide+kernel
 have hg:jG ⟨124,false,0⟩=true:=by decide+kernel
 unfold right at h⊢;by_cases h1:full M=true
 ·rw[if_pos h1]at h;exact absurd h (by decide)
 rw[if_neg h1]at h;by_cases h2:(!M.f0.all typed|| !M.f1.all imported|| !exported [] M.f5|| !M.f7.all custom|| !M.f2.all qO|| !M.f3.all memory|| !M.f4.all jG|| !M.f6.all laid)=true
 ·rw[if_pos h2]at h;exact absurd h (by decide)
 have e1:full (more M)=false:=by
  unfold full at h1⊢;simp only[decide_eq_true_eq,more]at h1⊢;exact jP (by simp only[List.length_append,List.length_singleton,List.length_nil];omega)
 rw[if_neg (by simp[e1])];simp only[Bool.or_eq_true,Bool.not_eq_true',not_or,Bool.not_eq_false]at h2;obtain⟨⟨⟨⟨⟨⟨⟨q0,q1⟩,q2⟩,q3⟩,q4⟩,q5⟩,q6⟩,q7⟩:=h2;rw[if_neg];show¬(!M.f0.all typed|| !M.f1.all imported|| !exported [] []|| !([⟨⟨#[109,111,114,101]⟩,[]⟩]:List jA).all custom|| !M.f2.all qO|| !M.f3.all memory|| !(M.f4++ [(⟨124,false,0⟩:dV)]).all jG|| !M.f6.all laid)=true
 rw[hc,q0,q1,q4,q5,q7,List.all_append,q6,List.all_cons,hg];decide
theorem FO{M:bL}(h:b9 M 2=0)(hl:M.f4.length+1<=256):b9 (more M) 2=0:=by
 unfold b9 at h⊢;rw[if_neg (by decide)]at h⊢;by_cases h1:right M≠0
 ·rw[if_pos h1]at h;exact absurd h h1
 by_cases h2:gh M≠0
 ·rw[if_neg h1,if_pos h2]at h;exact absurd h h2
 rw[if_neg h1,if_neg h2]at h;have h1:=Decidable.not_not.1 h1;have h2:=Decidable.not_not.1 h2;have e2:gh (more M)=gh M:=rfl;rw[if_neg (by simp[Ih h1 hl]),e2,if_neg (by simp[h2])];unfold eP at h⊢;by_cases h3:(!indices M)=true
 ·rw[if_pos h3]at h;exact absurd h (by decide)
 rw[if_neg h3]at h;have h3:indices M=true:=by simpa using h3
 have e3:indices (more M)=true:=by
  unfold indices at h3⊢;simp only[Bool.and_eq_true]at h3⊢;exact⟨h3.1,rfl,h3.2.2⟩
 rw[if_neg (by simp[e3]),if_neg (by simp)];rw[if_neg (by simp)]at h;have ha:=vQ _ _ h;exact tj _ _ (fun j h0 h9=>FN _ _ _ _ (ha j h0 h9))
end Sp
end Go.Proofs.YthehihjcpiadgaaGreat
namespace Go.Proofs.YthehihjcpiadgaaGreat
open Go.RowKit Go.Proofs.Wz.PrintWords Go.Proofs.Wz.bM
theorem OO{α:Type}(d:Kd α){W:World}{g e:Nat}{xs:List α}{cs:List Value}(hb:W.heap[g]? =some (.cells cs.toArray e (0,0)))(hr:dU (d.K W) d.sz xs cs)(hl:xs.length<=1000000):d.C W (some ⟨g,0,none⟩) xs.length xs:=by
 refine⟨rfl,by omega,fun _=>⟨_,rfl,fun j p hj=>⟨(cs.drop (j*d.sz)).take d.sz,?_,hr.2 j p hj,fun i u hu=>?_⟩⟩⟩
 ·have hj2:=(List.getElem?_eq_some_iff.1 hj).1
  have h1:j*d.sz+d.sz<=cs.length:=by rw[hr.1,<-Nat.succ_mul];exact Nat.mul_le_mul_right _ hj2
  rw[List.length_take,List.length_drop];omega
 ·rw[List.getElem?_take,List.getElem?_drop]at hu
  split at hu
  ·have h2:=aa hb (j*d.sz+i)
   have ea:(⟨g,0,none⟩:Addr).add (j*d.sz+i)=⟨g,j*d.sz+i,none⟩:=by simp[Addr.add];try omega
   rw[ea,h2,List.getElem?_toArray];exact hu
  ·cases hu
theorem iw{α:Type}(d:Kd α)(W:World)(A:Option Addr):d.C W A 0 []:=⟨rfl,by omega,fun h=>by omega⟩
def BZ(c:List aW):List Value:=c.flatMap fun i=> [.int .i64 i.f0,.int .i64 i.f1,.int .i64 i.f2,.int .u64 i.f3,.slice none 0 0]
theorem B8(W:World): ∀(c:List aW),(∀i∈c,i.f4= [])->dU (bW.K W) bW.sz c (BZ c)
 | [],_=>dU.none _ _
 |i::c,h=>by
  have h4:=h i jy
  have hk:bW.K W i [.int .i64 i.f0,.int .i64 i.f1,.int .i64 i.f2,.int .u64 i.f3,.slice none 0 0]:=by
   have:=qE W i (A4:=none) (c4:=0) (by rw[h4];exact aU _) (by rw[h4];exact iw _ _ _);rw[h4]at this;exact this
  exact dU.front (R:=bW.K W) (size:=bW.sz) hk rfl (B8 W c (fun j hj=>h j (List.mem_cons_of_mem _ hj))) rfl
def pO(c:List aW):bL:=⟨[⟨[],[]⟩],[],[⟨0,[],c⟩],[],[],[],[],[]⟩
def JC(B0 B2:Nat):List Value:= [.slice (some ⟨B0,0,none⟩) 1 1,.slice none 0 0,.slice (some ⟨B2,0,none⟩) 1 1,.slice none 0 0,.slice none 0 0,.slice none 0 0,.slice none 0 0,.slice none 0 0]
theorem OP{W:World}{B0 B1 B2:Nat}{c:List aW}(h0:W.heap[B0]? =some (.cells #[.slice none 0 0,.slice none 0 0] 40 (0,0)))(h1:W.heap[B1]? =some (.cells (BZ c).toArray 25 (0,0)))
 (h2:W.heap[B2]? =some (.cells #[.int .i64 0,.slice none 0 0,.slice (some ⟨B1,0,none⟩) c.length c.length] 59 (0,0))) (h4: ∀i∈c,i.f4= []) (hl:c.length<=1000000):bZ.K W (pO c) (JC B0 B2):=by
 have k0:qo.C W (some ⟨B0,0,none⟩) 1 [⟨[],[]⟩]:=OO qo (xs:= [⟨[],[]⟩]) (cs:= [.slice none 0 0,.slice none 0 0]) h0 (dU.front (R:=qo.K W) (size:=qo.sz) (kU W ⟨[],[]⟩ (A0:=none) (c0:=0) (A1:=none) (c1:=0) (aU _) (iw _ _ _) (aU _) (iw _ _ _)) rfl (dU.none _ _) rfl) (by decide);have k1:bW.C W (some ⟨B1,0,none⟩) c.length c:=OO bW h1 (B8 W c h4) hl;have k2:fL.C W (some ⟨B2,0,none⟩) 1 [⟨0,[],c⟩]:=OO fL (xs:= [⟨0,[],c⟩]) (cs:= [.int .i64 0,.slice none 0 0,.slice (some ⟨B1,0,none⟩) c.length c.length]) h2 (dU.front (R:=fL.K W) (size:=fL.sz) (tO W ⟨0,[],c⟩ (A1:=none) (c1:=0) (A2:=some ⟨B1,0,none⟩) (c2:=c.length) (aU _) (iw _ _ _) (aU _) k1) rfl (dU.none _ _) rfl) (by show(1:Nat)<=1000000;omega);exact kz W (pO c) (A0:=some ⟨B0,0,none⟩) (c0:=1) (A1:=none) (c1:=0) (A2:=some ⟨B2,0,none⟩) (c2:=1) (A3:=none) (c3:=0) (A4:=none) (c4:=0) (A5:=none) (c5:=0) (A6:=none) (c6:=0) (A7:=none) (c7:=0) (aU _) k0 (aU _) (iw _ _ _) (aU _) k2 (aU _) (iw _ _ _) (aU _) (iw _ _ _) (aU _) (iw _ _ _) (aU _) (iw _ _ _) (aU _) (iw _ _ _)
def Ts:bL:=⟨[],[],[],[],[],[],[],[]⟩
theorem acQ(W:World):bZ.K W Ts [.slice none 0 0,.slice none 0 0,.slice none 0 0,.slice none 0 0,.slice none 0 0,.slice none 0 0,.slice none 0 0,.slice none 0 0]:=
 kz W Ts (A0:=none) (c0:=0) (A1:=none) (c1:=0) (A2:=none) (c2:=0) (A3:=none) (c3:=0) (A4:=none) (c4:=0) (A5:=none) (c5:=0) (A6:=none) (c6:=0) (A7:=none) (c7:=0) (aU _) (iw _ _ _) (aU _) (iw _ _ _) (aU _) (iw _ _ _) (aU _) (iw _ _ _) (aU _) (iw _ _ _) (aU _) (iw _ _ _) (aU _) (iw _ _ _) (aU _) (iw _ _ _)
def Lu(op:Int):Bool:=decide (op=0\/op=26\/op=11\/ ¬(op=2\/op=3\/op=4\/op=5\/op=12\/op=13\/op=14\/op=15\/op=16\/op=18\/op=27\/op=32\/op=33\/op=34\/op=35\/op=36))
theorem FP(E:Sp.Env)(i:aW)(h:Lu i.f0=true):eW E i:=by
 have h:=of_decide_eq_true h;by_cases h0:i.f0=0
 ·exact Fj E i h0
 by_cases Tk:i.f0=26
 ·exact BV E i Tk
 by_cases h11:i.f0=11
 ·exact BW E i h11
 exact uF E i h0 (by omega) (by omega) (by omega) (by omega) h11 (by omega) (by omega) (by omega) (by omega) (by omega) (by omega) Tk (by omega) (by omega) (by omega) (by omega) (by omega) (by omega)
theorem Ca{c:List aW}(hc:c.all (fun i=>Lu i.f0)=true)(j:Nat)(hj:j<(pO c).f2.length)(k:Nat)(hk:k<(aF (pO c).f2 (j:Int)).f2.length):eW (Sp.uI (pO c) j) (aO (aF (pO c).f2 (j:Int)).f2 (k:Int)):=by
 have hj0:j=0:=by have:(pO c).f2.length=1:=rfl;omega
 subst hj0
 change k<c.length at hk
 show eW _ (aO c (k:Int))
 have e:aO c (k:Int)=c[k]:=by simp[aO,gq,hk]
 rw[List.all_eq_true]at hc;exact FP _ _ (by rw[e];exact hc _ (List.getElem_mem hk))
theorem zL{c:List aW}(hc:c.all (fun i=>Lu i.f0)=true)(cs:List Value)(p:Int)(w:World)(hM:bZ.K w (pO c) cs):Calls prog 18 #[.agg cs.toArray,.int .i64 p] w (lg (Sp.b9 (pO c) p) w):=
 lZ (pO c) cs p w hM (by show(0:Nat)<=_;omega) (by show(1:Nat)<=_;omega) (fun i=>by unfold cu pO;simp[qJ,maxLen];decide) (fun _ _ _ j hj k hk=>Ca hc j hj k hk)
theorem Lv(p:Int)(w:World)(cs:List Value)(hM:bZ.K w Ts cs):Calls prog 18 #[.agg cs.toArray,.int .i64 p] w (lg (Sp.b9 Ts p) w):=
 lZ Ts cs p w hM (by decide) (by decide) (fun i=>by unfold cu Ts;simp[qJ,maxLen];decide) (fun _ _ _ j hj=>by have:Ts.f2.length=0:=rfl;omega)
theorem OQ{c:List aW}(hc:c.all (fun i=>Lu i.f0)=true)(cs:List Value)(p:Int)(hp:p=1\/p=2)(w:World)(hM:bZ.K w (pO c) cs)(hk:Sp.right (pO c)=0):Calls prog 21 #[.agg cs.toArray,.int .i64 0,.int .i64 p] w (pF (Sp.kN (pO c) (decide (p=1)) 0) w):=
 nY (pO c) cs 0 p w hM (Sp.zI hk) (by rfl) (by show(0:Nat)<1;omega) hp (fun k hk=>Ca hc 0 (by show(0:Nat)<1;omega) k hk)
end Go.Proofs.YthehihjcpiadgaaGreat
namespace Go.Proofs.YthehihjcpiadgaaGreat
open Go.RowKit Go.Proofs.Wz.PrintWords
namespace Dd
def ins(op:Int):aW:=⟨op,0,0,0,[]⟩
end Dd
end Go.Proofs.YthehihjcpiadgaaGreat
section
namespace Go.Proofs.YthehihjcpiadgaaGreat
open Go.RowKit Go.Proofs.Wz.PrintWords
namespace Dd
def k1:List aW:= [ins 65,ins 106,ins 26,ins 11]
def k2:List aW:= [ins 0,ins 106,ins 26,ins 11]
theorem Sa:k1.all (fun i=>Lu i.f0)=true:=by decide
theorem JD:k2.all (fun i=>Lu i.f0)=true:=by decide
theorem OS:Sp.right (pO k1)=0:=by decide+kernel
theorem U6:Sp.kN (pO k1) (decide ((2:Int)=1)) 0=(1,14):=by decide+kernel
theorem OT:Sp.b9 (pO k2) 1=0:=by decide+kernel
theorem U7:Sp.b9 (pO k2) 3=1:=by decide+kernel
theorem OU:Sp.b9 Ts 1=0:=by decide+kernel
end Dd
theorem gL(w:World)(o:Obj):(w.alloc o).heap.size=w.heap.size+1:=by simp
theorem OV{W:World}{B t:Nat}{cs:Array Value}(h:W.heap[B]? =some (.cells cs t (0,0)))(a b c d e:Value):
 (((((W.setCell ⟨B,0,none⟩ a).setCell ⟨B,1,none⟩ b).setCell ⟨B,2,none⟩ c).setCell ⟨B,3,none⟩ d).setCell ⟨B,4,none⟩ e).heap[B]? =some (.cells (((((cs.setIfInBounds 0 a).setIfInBounds 1 b).setIfInBounds 2 c).setIfInBounds 3 d).setIfInBounds 4 e) t (0,0)):=
 bC (bC (bC (bC (bC h 0 a) 1 b) 2 c) 3 d) 4 e
theorem vU(W:World)(B k:Nat)(h:k≠B)(a b c d e:Value):(((((W.setCell ⟨B,0,none⟩ a).setCell ⟨B,1,none⟩ b).setCell ⟨B,2,none⟩ c).setCell ⟨B,3,none⟩ d).setCell ⟨B,4,none⟩ e).heap[k]? =W.heap[k]? :=
 (dX _ ⟨B,4,none⟩ e k h).trans ((dX _ ⟨B,3,none⟩ d k h).trans ((dX _ ⟨B,2,none⟩ c k h).trans ((dX _ ⟨B,1,none⟩ b k h).trans (dX _ ⟨B,0,none⟩ a k h))))
theorem FQ(w:World):Calls prog 15 #[] w (aB true w):=by
 obtain⟨W0,hW0⟩:=ex (((((w.alloc (.cells #[.slice none 0 0,.slice none 0 0] 40)).alloc (.cells #[.int .i64 65,.int .i64 0,.int .i64 0,.int .u64 0,.slice none 0 0,.int .i64 106,.int .i64 0,.int .i64 0,.int .u64 0,.slice none 0 0,.int .i64 26,.int .i64 0,.int .i64 0,.int .u64 0,.slice none 0 0,.int .i64 11,.int .i64 0,.int .i64 0,.int .u64 0,.slice none 0 0] 25)).alloc (.cells #[.int .i64 0,.slice none 0 0,.slice (some ⟨w.heap.size+1,0,none⟩) 4 4] 59)).alloc (.cells #[.slice (some ⟨w.heap.size,0,none⟩) 1 1,.slice none 0 0,.slice (some ⟨w.heap.size+1+1,0,none⟩) 1 1,.slice none 0 0,.slice none 0 0,.slice none 0 0,.slice none 0 0,.slice none 0 0] 37)));have z:W0.heap.size=w.heap.size+4:=by rw[hW0];simp
 have x0:W0.heap[w.heap.size]? =some (.cells #[.slice none 0 0,.slice none 0 0] 40 (0,0)):=by rw[hW0];exact bh (bh (bh (dh w _) _) _) _
 have x1:W0.heap[w.heap.size+1]? =some (.cells #[.int .i64 65,.int .i64 0,.int .i64 0,.int .u64 0,.slice none 0 0,.int .i64 106,.int .i64 0,.int .i64 0,.int .u64 0,.slice none 0 0,.int .i64 26,.int .i64 0,.int .i64 0,.int .u64 0,.slice none 0 0,.int .i64 11,.int .i64 0,.int .i64 0,.int .u64 0,.slice none 0 0] 25 (0,0)):=by rw[hW0];have:=dh (w.alloc (.cells #[.slice none 0 0,.slice none 0 0] 40)) (.cells #[.int .i64 65,.int .i64 0,.int .i64 0,.int .u64 0,.slice none 0 0,.int .i64 106,.int .i64 0,.int .i64 0,.int .u64 0,.slice none 0 0,.int .i64 26,.int .i64 0,.int .i64 0,.int .u64 0,.slice none 0 0,.int .i64 11,.int .i64 0,.int .i64 0,.int .u64 0,.slice none 0 0] 25);rw[gL]at this;exact bh (bh this _) _
 have x2:W0.heap[w.heap.size+1+1]? =some (.cells #[.int .i64 0,.slice none 0 0,.slice (some ⟨w.heap.size+1,0,none⟩) 4 4] 59 (0,0)):=by rw[hW0];have:=dh ((w.alloc (.cells #[.slice none 0 0,.slice none 0 0] 40)).alloc (.cells #[.int .i64 65,.int .i64 0,.int .i64 0,.int .u64 0,.slice none 0 0,.int .i64 106,.int .i64 0,.int .i64 0,.int .u64 0,.slice none 0 0,.int .i64 26,.int .i64 0,.int .i64 0,.int .u64 0,.slice none 0 0,.int .i64 11,.int .i64 0,.int .i64 0,.int .u64 0,.slice none 0 0] 25)) (.cells #[.int .i64 0,.slice none 0 0,.slice (some ⟨w.heap.size+1,0,none⟩) 4 4] 59);rw[gL,gL]at this;exact bh this _
 have x3:W0.heap[w.heap.size+1+1+1]? =some (.cells #[.slice (some ⟨w.heap.size,0,none⟩) 1 1,.slice none 0 0,.slice (some ⟨w.heap.size+1+1,0,none⟩) 1 1,.slice none 0 0,.slice none 0 0,.slice none 0 0,.slice none 0 0,.slice none 0 0] 37 (0,0)):=by rw[hW0];have:=dh (((w.alloc (.cells #[.slice none 0 0,.slice none 0 0] 40)).alloc (.cells #[.int .i64 65,.int .i64 0,.int .i64 0,.int .u64 0,.slice none 0 0,.int .i64 106,.int .i64 0,.int .i64 0,.int .u64 0,.slice none 0 0,.int .i64 26,.int .i64 0,.int .i64 0,.int .u64 0,.slice none 0 0,.int .i64 11,.int .i64 0,.int .i64 0,.int .u64 0,.slice none 0 0] 25)).alloc (.cells #[.int .i64 0,.slice none 0 0,.slice (some ⟨w.heap.size+1,0,none⟩) 4 4] 59)) (.cells #[.slice (some ⟨w.heap.size,0,none⟩) 1 1,.slice none 0 0,.slice (some ⟨w.heap.size+1+1,0,none⟩) 1 1,.slice none 0 0,.slice none 0 0,.slice none 0 0,.slice none 0 0,.slice none 0 0] 37);rw[gL,gL,gL]at this;exact this
 have hb0:Below w.heap.size w W0:=by rw[hW0];exact af (af (af (af (ay _ _) _) _) _) _
 have HF:Hid (Calls prog 21 #[.agg #[.slice (some ⟨w.heap.size,0,none⟩) 1 1,.slice none 0 0,.slice (some ⟨w.heap.size+1+1,0,none⟩) 1 1,.slice none 0 0,.slice none 0 0,.slice none 0 0,.slice none 0 0,.slice none 0 0],.int .i64 0,.int .i64 2] W0 (pF (1,14) W0)):=hd (by have:=OQ Dd.Sa (JC (w.heap.size) (w.heap.size+1+1)) 2 (.inr rfl) W0 (OP (c:=Dd.k1) (B1:=w.heap.size+1) x0 x1 x2 (by decide) (by decide)) Dd.OS;rw[Dd.U6]at this;exact this);have HX:=hd (And.intro x0 (And.intro x1 (And.intro x2 x3)));have cn:=hd hb0;have HZ:=hd z;rw[hW0]at HF;have HW0:=hd hW0;clear x0 x1 x2 x3 hb0 z hW0
 go_enter func15,ntmps15
 go_wp2_with (first|((go_at_call 21);(with_reducible refine HF.o.mono ?_);rintro e w1⟨rfl,hb⟩;rw[<-HW0.o]at hb;have hz:=hb.size;have bE:=hd hb;clear hb;have y0:=(bE.o.block (w.heap.size) (by have:=HZ.o;omega)).trans HX.o.1;have y1:=(bE.o.block (w.heap.size+1) (by have:=HZ.o;omega)).trans HX.o.2.1;have y2:=(bE.o.block (w.heap.size+1+1) (by have:=HZ.o;omega)).trans HX.o.2.2.1;have y3:=(bE.o.block (w.heap.size+1+1+1) (by have:=HZ.o;omega)).trans HX.o.2.2.2;have HY:=hd (And.intro y0 (And.intro y1 (And.intro y2 y3)));obtain⟨Yy,Yz,YA,YB,YC,YD,YE,YF⟩:=c8 y3;have acR:=(aa y2 2).trans rfl;have acS:=(aa y1 0).trans rfl;have acT:=ah y1 0;have acU:=(aa y1 1).trans rfl;have acV:=ah y1 1;have acW:=(aa y1 2).trans rfl;have acX:=ah y1 2;have acY:=(aa y1 3).trans rfl;have acZ:=ah y1 3;have ac0:=(aa y1 4).trans rfl;have ac1:=ah y1 4;clear y0 y1 y2 y3))
 have hs1:=bE.o.size;have gG:Below w.heap.size w ((((((w1.setCell ⟨w.heap.size+1,0,none⟩ (.int .i64 0)).setCell ⟨w.heap.size+1,1,none⟩ (.int .i64 0)).setCell ⟨w.heap.size+1,2,none⟩ (.int .i64 0)).setCell ⟨w.heap.size+1,3,none⟩ (.int .u64 0)).setCell ⟨w.heap.size+1,4,none⟩ (.slice none 0 0))):=aK (aK (aK (aK (aK (aA cn.o (by have:=HZ.o;omega) bE.o) (by show w.heap.size<=w.heap.size+1;omega)) (by show w.heap.size<=w.heap.size+1;omega)) (by show w.heap.size<=w.heap.size+1;omega)) (by show w.heap.size<=w.heap.size+1;omega)) (by show w.heap.size<=w.heap.size+1;omega);have y0:((((((w1.setCell ⟨w.heap.size+1,0,none⟩ (.int .i64 0)).setCell ⟨w.heap.size+1,1,none⟩ (.int .i64 0)).setCell ⟨w.heap.size+1,2,none⟩ (.int .i64 0)).setCell ⟨w.heap.size+1,3,none⟩ (.int .u64 0)).setCell ⟨w.heap.size+1,4,none⟩ (.slice none 0 0))).heap[w.heap.size]? =some (.cells #[.slice none 0 0,.slice none 0 0] 40 (0,0)):=(vU w1 _ _ (by omega) _ _ _ _ _).trans HY.o.1;have y1:((((((w1.setCell ⟨w.heap.size+1,0,none⟩ (.int .i64 0)).setCell ⟨w.heap.size+1,1,none⟩ (.int .i64 0)).setCell ⟨w.heap.size+1,2,none⟩ (.int .i64 0)).setCell ⟨w.heap.size+1,3,none⟩ (.int .u64 0)).setCell ⟨w.heap.size+1,4,none⟩ (.slice none 0 0))).heap[w.heap.size+1]? =some (.cells #[.int .i64 0,.int .i64 0,.int .i64 0,.int .u64 0,.slice none 0 0,.int .i64 106,.int .i64 0,.int .i64 0,.int .u64 0,.slice none 0 0,.int .i64 26,.int .i64 0,.int .i64 0,.int .u64 0,.slice none 0 0,.int .i64 11,.int .i64 0,.int .i64 0,.int .u64 0,.slice none 0 0] 25 (0,0)):=OV HY.o.2.1 _ _ _ _ _;have y2:((((((w1.setCell ⟨w.heap.size+1,0,none⟩ (.int .i64 0)).setCell ⟨w.heap.size+1,1,none⟩ (.int .i64 0)).setCell ⟨w.heap.size+1,2,none⟩ (.int .i64 0)).setCell ⟨w.heap.size+1,3,none⟩ (.int .u64 0)).setCell ⟨w.heap.size+1,4,none⟩ (.slice none 0 0))).heap[w.heap.size+1+1]? =some (.cells #[.int .i64 0,.slice none 0 0,.slice (some ⟨w.heap.size+1,0,none⟩) 4 4] 59 (0,0)):=(vU w1 _ _ (by omega) _ _ _ _ _).trans HY.o.2.2.1;have y3:((((((w1.setCell ⟨w.heap.size+1,0,none⟩ (.int .i64 0)).setCell ⟨w.heap.size+1,1,none⟩ (.int .i64 0)).setCell ⟨w.heap.size+1,2,none⟩ (.int .i64 0)).setCell ⟨w.heap.size+1,3,none⟩ (.int .u64 0)).setCell ⟨w.heap.size+1,4,none⟩ (.slice none 0 0))).heap[w.heap.size+1+1+1]? =some (.cells #[.slice (some ⟨w.heap.size,0,none⟩) 1 1,.slice none 0 0,.slice (some ⟨w.heap.size+1+1,0,none⟩) 1 1,.slice none 0 0,.slice none 0 0,.slice none 0 0,.slice none 0 0,.slice none 0 0] 37 (0,0)):=(vU w1 _ _ (by omega) _ _ _ _ _).trans HY.o.2.2.2;clear Yy Yz YA YB YC YD YE YF acR acS acT acU acV acW acX acY acZ ac0 ac1 hs1 hz;generalize ((((((w1.setCell ⟨w.heap.size+1,0,none⟩ (.int .i64 0)).setCell ⟨w.heap.size+1,1,none⟩ (.int .i64 0)).setCell ⟨w.heap.size+1,2,none⟩ (.int .i64 0)).setCell ⟨w.heap.size+1,3,none⟩ (.int .u64 0)).setCell ⟨w.heap.size+1,4,none⟩ (.slice none 0 0)))=W2 at gG y0 y1 y2 y3⊢;have ni:=hd gG;clear gG;have HM1:Hid (∀W,Below W2.heap.size W2 W->Calls prog 18 #[.agg #[.slice (some ⟨w.heap.size,0,none⟩) 1 1,.slice none 0 0,.slice (some ⟨w.heap.size+1+1,0,none⟩) 1 1,.slice none 0 0,.slice none 0 0,.slice none 0 0,.slice none 0 0,.slice none 0 0],.int .i64 1] W (lg 0 W)):=hd (fun W hb=>by have:=zL Dd.JD (JC w.heap.size (w.heap.size+1+1)) 1 W (OP (c:=Dd.k2) (B1:=w.heap.size+1) ((hb.block _ (aj y0)).trans y0) ((hb.block _ (aj y1)).trans y1) ((hb.block _ (aj y2)).trans y2) (by decide) (by decide));rw[Dd.OT]at this;exact this);have NS:Hid (∀W,Below W2.heap.size W2 W->Calls prog 18 #[.agg #[.slice (some ⟨w.heap.size,0,none⟩) 1 1,.slice none 0 0,.slice (some ⟨w.heap.size+1+1,0,none⟩) 1 1,.slice none 0 0,.slice none 0 0,.slice none 0 0,.slice none 0 0,.slice none 0 0],.int .i64 3] W (lg 1 W)):=hd (fun W hb=>by have:=zL Dd.JD (JC w.heap.size (w.heap.size+1+1)) 3 W (OP (c:=Dd.k2) (B1:=w.heap.size+1) ((hb.block _ (aj y0)).trans y0) ((hb.block _ (aj y1)).trans y1) ((hb.block _ (aj y2)).trans y2) (by decide) (by decide));rw[Dd.U7]at this;exact this);have HNO:Hid (∀W,Calls prog 18 #[.agg #[.slice none 0 0,.slice none 0 0,.slice none 0 0,.slice none 0 0,.slice none 0 0,.slice none 0 0,.slice none 0 0,.slice none 0 0],.int .i64 1] W (lg 0 W)):=hd (fun W=>by have:=Lv 1 W _ (acQ W);rw[Dd.OU]at this;exact this);have HY3:=hd y3;clear y0 y1 y2 y3 HY HX HW0 HZ HF;refine(HNO.o _).mono ?_;rintro e w3⟨rfl,hb3⟩;have y3:=(hb3.block _ (aj HY3.o)).trans HY3.o;obtain⟨Yy,Yz,YA,YB,YC,YD,YE,YF⟩:=c8 y3;have cC:=hd hb3;clear hb3 y3
 go_wp2_with (first|((go_at_call 18);(with_reducible refine(HM1.o _ cC.o).mono ?_);rintro e w4⟨rfl,hb⟩;have bP:=hd (aA cC.o cC.o.size hb);have y3:=(bP.o.block _ (aj HY3.o)).trans HY3.o;obtain⟨ahB,ahC,ahD,ahE,ahF,ahG,ahH,ahI⟩:=c8 y3;clear hb y3)|((go_at_call 18);(with_reducible refine(NS.o _ bP.o).mono ?_);rintro e w5⟨rfl,hb⟩;have gI:=hd (aA bP.o bP.o.size hb);clear hb))
 go_ret;exact⟨rfl,aA ni.o ni.o.size gI.o⟩
end Go.Proofs.YthehihjcpiadgaaGreat
end
