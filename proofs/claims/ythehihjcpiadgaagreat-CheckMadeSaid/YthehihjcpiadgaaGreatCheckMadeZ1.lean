import Derived.Test.YthehihjcpiadgaaGreatCheckMadeF1
import Derived.Test.YthehihjcpiadgaaGreatCheckMadeK4
import Derived.Test.YthehihjcpiadgaaGreatCheckMadeO1
set_option maxRecDepth 100000
set_option maxHeartbeats 0
set_option linter.all false
open Go.Proofs.Tryz
namespace Go.Proofs.YthehihjcpiadgaaGreat
open Go.RowKit Go.Proofs.Wz.PrintWords Go.Proofs.Wz.bM
theorem rZ.below{w w':World}{A:Option Addr}{n:Nat}(h:rZ w A n)(hb:Below w.heap.size w w'):rZ w' A n:=fun i hi=>by
 obtain⟨ad,t0,t1,t2,t3,raw,AR,cR,e,hc,hk⟩:=h i hi;exact⟨ad,t0,t1,t2,t3,raw,AR,cR,e,fun j v hv=>(hb.cell (aR w _ (hc j v hv))).trans (hc j v hv),wk.K (fun q hq=>hb.block q hq) hk⟩
theorem oG.sizes{k:Nat}{M:bL}(h:oG k M)(i:Int):(cu M.f5 i).f0.size<=maxLen:=by
 unfold cu;rw[gq];by_cases hi:i.toNat<M.f5.length
 ·rw[MA hi]
  exact cG (h.s _ (List.getElem_mem _)) (by decide)
 ·rw[List.getElem?_eq_none (by omega)]
  decide
theorem nP{k:Nat}{M:bL}(hs:oG k M)(hk:k<=1000)(p r:Int)(hr:Sp.b9 M p=r)(w:World)(cs:List Value)(hM:bZ.K w M cs):Calls prog 18 #[.agg cs.toArray,.int .i64 p] w (lg r w):=
 hr▸oy M cs p w hM (by have:=hs.n1;omega) (by have:=hs.n2;omega) hs.sizes
def PZ(W:World)(M:bL)(vs:List Value):Prop:=bZ.K W M vs/\oG 200 M
def rI(w W:World)(rb:Nat):Prop:=w.heap.size<=rb/\Below w.heap.size w W/\ ∃M1 M2 vs ws,W.heap[rb]? =some (.cells (vs++ws).toArray 37 (0,0))/\PZ W M1 vs/\PZ W M2 ws
theorem rI.at{w W:World}{rb j:Nat}(h:rI w W rb)(hj:j<2): ∃M A0 c0 A1 c1 A2 c2 A3 c3 A4 c4 A5 c5 A6 c6 A7 c7,PZ W M [.slice A0 M.f0.length c0,.slice A1 M.f1.length c1,.slice A2 M.f2.length c2,.slice A3 M.f3.length c3,.slice A4 M.f4.length c4,.slice A5 M.f5.length c5,.slice A6 M.f6.length c6,.slice A7 M.f7.length c7]/\ ∀q v,([.slice A0 M.f0.length c0,.slice A1 M.f1.length c1,.slice A2 M.f2.length c2,.slice A3 M.f3.length c3,.slice A4 M.f4.length c4,.slice A5 M.f5.length c5,.slice A6 M.f6.length c6,.slice A7 M.f7.length c7]:List Value)[q]? =some v->W.cell? ⟨rb,j*8+q,none⟩=some v:=by
 obtain⟨-,-,M1,M2,vs,ws,hx,h1,h2⟩:=h;obtain⟨A0,c0,A1,c1,A2,c2,A3,c3,A4,c4,A5,c5,A6,c6,A7,c7,rfl,-⟩:=aD h1.1;obtain⟨B0,d0,B1,d1,B2,d2,B3,d3,B4,d4,B5,d5,B6,d6,B7,d7,rfl,-⟩:=aD h2.1;obtain rfl|rfl:j=0\/j=1:=by omega
 ·refine⟨M1,A0,c0,A1,c1,A2,c2,A3,c3,A4,c4,A5,c5,A6,c6,A7,c7,h1,fun q v hv=>?_⟩
  obtain rfl|rfl|rfl|rfl|rfl|rfl|rfl|rfl:q=0\/q=1\/q=2\/q=3\/q=4\/q=5\/q=6\/q=7:=by have:=(List.getElem?_eq_some_iff.1 hv).1;simp at this;omega
  all_goals (exact(aa hx _).trans hv)
 ·refine⟨M2,B0,d0,B1,d1,B2,d2,B3,d3,B4,d4,B5,d5,B6,d6,B7,d7,h2,fun q v hv=>?_⟩
  obtain rfl|rfl|rfl|rfl|rfl|rfl|rfl|rfl:q=0\/q=1\/q=2\/q=3\/q=4\/q=5\/q=6\/q=7:=by have:=(List.getElem?_eq_some_iff.1 hv).1;simp at this;omega
  all_goals (exact(aa hx _).trans hv)
theorem rI.below{w W W':World}{rb:Nat}(h:rI w W rb)(hb:Below W.heap.size W W'):rI w W' rb:=by
 obtain⟨h0,h1,M1,M2,vs,ws,hx,h2,h3⟩:=h;exact⟨h0,aA h1 h1.size hb,M1,M2,vs,ws,(hb.block _ (aj hx)).trans hx,⟨iT.K (fun q hq=>hb.block q hq) h2.1,h2.2⟩,⟨iT.K (fun q hq=>hb.block q hq) h3.1,h3.2⟩⟩
theorem law10_CheckMade(l:List Int)(A:Option Addr)(c:Nat)(B:Option Addr)(n d:Nat)(w:World)(hC:bf w A l)(hl:l.length<=4611686018427387904)(hn:n<=9223372036854775807)(hT:rZ w B n):Calls prog 6 #[.slice A l.length c,.slice B n d] w (aB true w):=by
 have HT:=hd hT;have HN:=hd hn;clear hT hn
 go_enter func6,ntmps6
 go_wp2_with fail
 refine(F8 l A c w hC hl).mono ?_;rintro e W1⟨M1,cs1,rfl,pZ,hs1,hb1⟩;obtain⟨A0,c0,A1,c1,A2,c2,A3,c3,A4,c4,A5,c5,A6,c6,A7,c7,rfl,-⟩:=aD pZ;have Ke:=hd pZ;have oK:=hd hs1;have bE:=hd hb1;clear pZ hs1 hb1
 go_wp2_with fail
 have Ij:=dh W1 (.cells #[.slice A0 M1.f0.length c0,.slice A1 M1.f1.length c1,.slice A2 M1.f2.length c2,.slice A3 M1.f3.length c3,.slice A4 M1.f4.length c4,.slice A5 M1.f5.length c5,.slice A6 M1.f6.length c6,.slice A7 M1.f7.length c7] 37);have xZ:=af (ay _ W1) (.cells #[.slice A0 M1.f0.length c0,.slice A1 M1.f1.length c1,.slice A2 M1.f2.length c2,.slice A3 M1.f3.length c3,.slice A4 M1.f4.length c4,.slice A5 M1.f5.length c5,.slice A6 M1.f6.length c6,.slice A7 M1.f7.length c7] 37);generalize (W1.alloc (.cells #[.slice A0 M1.f0.length c0,.slice A1 M1.f1.length c1,.slice A2 M1.f2.length c2,.slice A3 M1.f3.length c3,.slice A4 M1.f4.length c4,.slice A5 M1.f5.length c5,.slice A6 M1.f6.length c6,.slice A7 M1.f7.length c7] 37))=X1 at Ij xZ⊢;have kI:=hd Ij;have gI:=hd xZ;clear Ij xZ;obtain⟨y0,y1,y2,y3,y4,y5,y6,y7⟩:=rG kI.o;have Pd:=hd (show Below w.heap.size w X1 from aA bE.o bE.o.size gI.o);have HM1:=hd (show bZ.K X1 M1 _ from iT.K (fun q hq=>gI.o.block q hq) Ke.o);refine(PY X1 M1 _ 100 HM1.o oK.o (by decide) B n d HN.o (HT.o.below Pd.o)).mono ?_;rintro e W2⟨M2,cs2,rfl,hk2,hs2,hb2⟩;obtain⟨B0,d0,B1,d1,B2,d2,B3,d3,B4,d4,B5,d5,B6,d6,B7,d7,rfl,-⟩:=aD hk2;have Th:=hd hk2;have iM:=hd hs2;have bw:=hd hb2;clear hk2 hs2 hb2;clear y0 y1 y2 y3 y4 y5 y6 y7;obtain⟨X2,Zx⟩:=ex ((W2.alloc (.cells #[.slice B0 M2.f0.length d0,.slice B1 M2.f1.length d1,.slice B2 M2.f2.length d2,.slice B3 M2.f3.length d3,.slice B4 M2.f4.length d4,.slice B5 M2.f5.length d5,.slice B6 M2.f6.length d6,.slice B7 M2.f7.length d7] 37)));have F2:=dh W2 (.cells #[.slice B0 M2.f0.length d0,.slice B1 M2.f1.length d1,.slice B2 M2.f2.length d2,.slice B3 M2.f3.length d3,.slice B4 M2.f4.length d4,.slice B5 M2.f5.length d5,.slice B6 M2.f6.length d6,.slice B7 M2.f7.length d7] 37);have VW:=af (ay _ W2) (.cells #[.slice B0 M2.f0.length d0,.slice B1 M2.f1.length d1,.slice B2 M2.f2.length d2,.slice B3 M2.f3.length d3,.slice B4 M2.f4.length d4,.slice B5 M2.f5.length d5,.slice B6 M2.f6.length d6,.slice B7 M2.f7.length d7] 37);rw[<-Zx]at F2 VW;have hs2:X2.heap.size=W2.heap.size+1:=by rw[Zx];simp
 have Dz:=hd F2;have oa:=hd VW;clear F2 VW;obtain⟨y0,y1,y2,y3,y4,y5,y6,y7⟩:=rG ((oa.o.block _ (jv (aj kI.o) bw.o.size)).trans ((bw.o.block _ (aj kI.o)).trans kI.o));obtain⟨z0,z1,z2,z3,z4,z5,z6,z7⟩:=rG Dz.o;have VW:Below w.heap.size w X2:=aA (aA Pd.o Pd.o.size bw.o) (cG Pd.o.size bw.o.size) oa.o;have hk6:Below X1.heap.size X1 (X2.alloc (.cells #[.slice A0 M1.f0.length c0,.slice A1 M1.f1.length c1,.slice A2 M1.f2.length c2,.slice A3 M1.f3.length c3,.slice A4 M1.f4.length c4,.slice A5 M1.f5.length c5,.slice A6 M1.f6.length c6,.slice A7 M1.f7.length c7,.slice B0 M2.f0.length d0,.slice B1 M2.f1.length d1,.slice B2 M2.f2.length d2,.slice B3 M2.f3.length d3,.slice B4 M2.f4.length d4,.slice B5 M2.f5.length d5,.slice B6 M2.f6.length d6,.slice B7 M2.f7.length d7] 37)):=af (az bw.o oa.o) _;have Vr:Below W2.heap.size W2 (X2.alloc (.cells #[.slice A0 M1.f0.length c0,.slice A1 M1.f1.length c1,.slice A2 M1.f2.length c2,.slice A3 M1.f3.length c3,.slice A4 M1.f4.length c4,.slice A5 M1.f5.length c5,.slice A6 M1.f6.length c6,.slice A7 M1.f7.length c7,.slice B0 M2.f0.length d0,.slice B1 M2.f1.length d1,.slice B2 M2.f2.length d2,.slice B3 M2.f3.length d3,.slice B4 M2.f4.length d4,.slice B5 M2.f5.length d5,.slice B6 M2.f6.length d6,.slice B7 M2.f7.length d7] 37)):=af oa.o _;have HMA:Hid (rI w (X2.alloc (.cells #[.slice A0 M1.f0.length c0,.slice A1 M1.f1.length c1,.slice A2 M1.f2.length c2,.slice A3 M1.f3.length c3,.slice A4 M1.f4.length c4,.slice A5 M1.f5.length c5,.slice A6 M1.f6.length c6,.slice A7 M1.f7.length c7,.slice B0 M2.f0.length d0,.slice B1 M2.f1.length d1,.slice B2 M2.f2.length d2,.slice B3 M2.f3.length d3,.slice B4 M2.f4.length d4,.slice B5 M2.f5.length d5,.slice B6 M2.f6.length d6,.slice B7 M2.f7.length d7] 37)) (W2.heap.size+1)):=hd (hs2▸(show rI w (X2.alloc (.cells #[.slice A0 M1.f0.length c0,.slice A1 M1.f1.length c1,.slice A2 M1.f2.length c2,.slice A3 M1.f3.length c3,.slice A4 M1.f4.length c4,.slice A5 M1.f5.length c5,.slice A6 M1.f6.length c6,.slice A7 M1.f7.length c7,.slice B0 M2.f0.length d0,.slice B1 M2.f1.length d1,.slice B2 M2.f2.length d2,.slice B3 M2.f3.length d3,.slice B4 M2.f4.length d4,.slice B5 M2.f5.length d5,.slice B6 M2.f6.length d6,.slice B7 M2.f7.length d7] 37)) X2.heap.size from⟨VW.size,af VW _,M1,M2,[.slice A0 M1.f0.length c0,.slice A1 M1.f1.length c1,.slice A2 M1.f2.length c2,.slice A3 M1.f3.length c3,.slice A4 M1.f4.length c4,.slice A5 M1.f5.length c5,.slice A6 M1.f6.length c6,.slice A7 M1.f7.length c7],[.slice B0 M2.f0.length d0,.slice B1 M2.f1.length d1,.slice B2 M2.f2.length d2,.slice B3 M2.f3.length d3,.slice B4 M2.f4.length d4,.slice B5 M2.f5.length d5,.slice B6 M2.f6.length d6,.slice B7 M2.f7.length d7],dh X2 _,⟨iT.K (fun q hq=>hk6.block q hq) HM1.o,oK.o.more (by decide)⟩,⟨iT.K (fun q hq=>Vr.block q hq) Th.o,iM.o.more (by decide)⟩⟩));clear VW hk6 Vr hs2;rw[Zx]at y0 z0 y1 z1 y2 z2 y3 z3 y4 z4 y5 z5 y6 z6 y7 z7;have ep:=hd Zx;clear Zx
 go_wp2_with fail
 rw[<-ep.o];clear y0 z0 y1 z1 y2 z2 y3 z3 y4 z4 y5 z5 y6 z6 y7 z7
 go_loopw [20] (fun i wr=> ∃j:Nat,j<=2/\i= .int .i64 (j:Int)/\Hid (rI w wr (W2.heap.size+1))) (fun i _=>2-(intOf i).toNat)
 case atStart=>exact⟨0,by omega,rfl,HMA⟩
 case round=>
  obtain⟨j,hj2,rfl,WO⟩:=hrel;rename_i wr _;clear HMA;by_cases cw:j<2
  case' neg=>
   have gw:decide ((j:Int)<2)=false:=by simp only[iy];omega
   go_wp2_with fail
   refine(FQ wr).mono ?_;rintro e w9⟨rfl,hb9⟩
   go_wp2_with fail
   go_ret;exact⟨rfl,aA WO.o.2.1 WO.o.2.1.size hb9⟩
  case' pos=>
   have gw:((j:Int)<2):=by omega
   have HJ:=hd cw;clear cw hj2;obtain⟨M,C0,b0,C1,b1,C2,b2,C3,b3,C4,b4,C5,b5,C6,b6,C7,b7,⟨hkm,hsm⟩,hcc⟩:=WO.o.at HJ.o;have HKM:=hd hkm;have qw:=hd hsm;have yN:=hd hcc;clear hkm hsm hcc;have j0:(0:Int)<=(j:Int):=by omega
   have j2:((j:Int)).toNat=j:=dF j;have y0:wr.cell? ⟨W2.heap.size+1,j*8,none⟩=some (.slice C0 M.f0.length b0):=yN.o 0 _ rfl;have y1:wr.cell? ⟨W2.heap.size+1,j*8+1,none⟩=some (.slice C1 M.f1.length b1):=yN.o 1 _ rfl;have y2:wr.cell? ⟨W2.heap.size+1,j*8+2,none⟩=some (.slice C2 M.f2.length b2):=yN.o 2 _ rfl;have y3:wr.cell? ⟨W2.heap.size+1,j*8+3,none⟩=some (.slice C3 M.f3.length b3):=yN.o 3 _ rfl;have y4:wr.cell? ⟨W2.heap.size+1,j*8+4,none⟩=some (.slice C4 M.f4.length b4):=yN.o 4 _ rfl;have y5:wr.cell? ⟨W2.heap.size+1,j*8+5,none⟩=some (.slice C5 M.f5.length b5):=yN.o 5 _ rfl;have y6:wr.cell? ⟨W2.heap.size+1,j*8+6,none⟩=some (.slice C6 M.f6.length b6):=yN.o 6 _ rfl;have y7:wr.cell? ⟨W2.heap.size+1,j*8+7,none⟩=some (.slice C7 M.f7.length b7):=yN.o 7 _ rfl
   go_wp2_with fail
   have sr:=dh wr (.cells #[.slice C0 M.f0.length b0,.slice C1 M.f1.length b1,.slice C2 M.f2.length b2,.slice C3 M.f3.length b3,.slice C4 M.f4.length b4,.slice C5 M.f5.length b5,.slice C6 M.f6.length b6,.slice C7 M.f7.length b7] 37);have WQ:=af (ay _ wr) (.cells #[.slice C0 M.f0.length b0,.slice C1 M.f1.length b1,.slice C2 M.f2.length b2,.slice C3 M.f3.length b3,.slice C4 M.f4.length b4,.slice C5 M.f5.length b5,.slice C6 M.f6.length b6,.slice C7 M.f7.length b7] 37);generalize (wr.alloc (.cells #[.slice C0 M.f0.length b0,.slice C1 M.f1.length b1,.slice C2 M.f2.length b2,.slice C3 M.f3.length b3,.slice C4 M.f4.length b4,.slice C5 M.f5.length b5,.slice C6 M.f6.length b6,.slice C7 M.f7.length b7] 37))=X8 at sr WQ⊢;have Io:=hd sr;have mN:=hd WQ;clear sr WQ;clear y0 y1 y2 y3 y4 y5 y6 y7;have Zy:=hd (show bZ.K X8 M _ from iT.K (fun q hq=>mN.o.block q hq) HKM.o);obtain⟨y0,y1,y2,y3,y4,y5,y6,y7⟩:=rG Io.o;by_cases e2:Sp.b9 M 2=0
   case' neg=>
    have e1:Sp.b9 M 1≠0:=fun h=>e2 (Sp.FJ h)
    obtain⟨r2,hr2⟩: ∃r:Int,Hid (r=Sp.b9 M 2):=⟨_,hd rfl⟩;obtain⟨r1,hr1⟩: ∃r:Int,Hid (r=Sp.b9 M 1):=⟨_,hd rfl⟩;have c1:(r1==0)=false:=by rw[hr1.o];simpa using e1
    have c2:(r2 !=0)=true:=by rw[hr2.o];simpa using e2
    have E2:=hd e2;clear e1 e2;refine(nP qw.o (by decide) 2 r2 (hr2.o.symm) _ _ Zy.o).mono ?_;rintro e V1⟨rfl,hb1⟩;have VX:=hd (show Below X8.heap.size X8 V1 from hb1);clear hb1;have VY:=hd ((VX.o.block _ (aj Io.o)).trans Io.o);clear y0 y1 y2 y3 y4 y5 y6 y7;obtain⟨y0,y1,y2,y3,y4,y5,y6,y7⟩:=rG VY.o;have VZ:=hd (show bZ.K V1 M _ from iT.K (fun q hq=>VX.o.block q hq) Zy.o)
    go_wp2_with fail
    refine(nP qw.o (by decide) 1 r1 (hr1.o.symm) _ _ VZ.o).mono ?_;rintro e V2⟨rfl,hb2⟩;have hn:=WO.o.below (az mN.o (az VX.o hb2));have VV:=hd hn;clear hn
    go_wp2_with fail
    go_roundw
    case rel=>exact⟨j+1,by have:=HJ.o;omega,by go_num,VV⟩
    case measure=>have:=HJ.o;simp[intOf];omega
   case' pos=>
    refine(nP qw.o (by decide) 2 0 (e2) _ _ Zy.o).mono ?_;rintro e V1⟨rfl,hb1⟩;have VX:=hd (show Below X8.heap.size X8 V1 from hb1);clear hb1;have VY:=hd ((VX.o.block _ (aj Io.o)).trans Io.o);clear y0 y1 y2 y3 y4 y5 y6 y7;obtain⟨y0,y1,y2,y3,y4,y5,y6,y7⟩:=rG VY.o;have VZ:=hd (show bZ.K V1 M _ from iT.K (fun q hq=>VX.o.block q hq) Zy.o);obtain⟨r1,hr1⟩: ∃r:Int,Hid (r=Sp.b9 M 1):=⟨_,hd rfl⟩;have HE:=hd e2;clear e2
    go_wp2_with fail
    refine(nP qw.o (by decide) 1 r1 (hr1.o.symm) _ _ VZ.o).mono ?_;rintro e V2⟨rfl,hb2⟩;have HV2:=hd (show Below X8.heap.size X8 V2 from az VX.o hb2);clear hb2;have aej:=hd ((HV2.o.block _ (aj Io.o)).trans Io.o);clear y0 y1 y2 y3 y4 y5 y6 y7;obtain⟨y0,y1,y2,y3,y4,y5,y6,y7⟩:=rG aej.o;clear hr1;by_cases c1:r1=0
    case' pos=>subst c1
    case' neg=>have c1:(r1==0)=false:=by simpa using c1
    all_goals
     have Zz:=hd (show bZ.K V2 M _ from iT.K (fun q hq=>HV2.o.block q hq) Zy.o);obtain⟨D0,a0,D1,a1,D2,a2,D3,a3,D4,a4,D5,a5,D6,a6,D7,a7,he,-,-,-,-,-,-,-,-,l4,g4,-⟩:=aD Zz.o;injection he with he0 he;injection he with GQ he;injection he with he2 he;injection he with he3 he;injection he with he4 he;clear he he0 GQ he2 he3;injection he4 with he4 he5 he6;subst he4;clear he5 he6 l4;obtain⟨jC,hW⟩:=ex ((((V2.alloc (.cells #[.slice C0 M.f0.length b0,.slice C1 M.f1.length b1,.slice C2 M.f2.length b2,.slice C3 M.f3.length b3,.slice C4 M.f4.length b4,.slice none 0 0,.slice C6 M.f6.length b6,.slice (some ⟨V2.heap.size+1,0,none⟩) 1 1] 37)).alloc (.cells #[.string ⟨#[109,111,114,101]⟩,.slice none 0 0] 53)).alloc (.cells #[] 55)));have V0:Below V2.heap.size V2 jC:=by rw[hW];exact af (af (af (ay _ _) _) _) _
     have V4:jC.heap.size=V2.heap.size+1+1+1:=by rw[hW];simp
     have ZA:jC.heap[V2.heap.size]? =some (.cells #[.slice C0 M.f0.length b0,.slice C1 M.f1.length b1,.slice C2 M.f2.length b2,.slice C3 M.f3.length b3,.slice C4 M.f4.length b4,.slice none 0 0,.slice C6 M.f6.length b6,.slice (some ⟨V2.heap.size+1,0,none⟩) 1 1] 37 (0,0)):=by rw[hW];exact gv [_,_,_] V2 0 _ rfl
     have ZC:jC.heap[V2.heap.size+1]? =some (.cells #[.string ⟨#[109,111,114,101]⟩,.slice none 0 0] 53 (0,0)):=by rw[hW];exact gv [_,_,_] V2 1 _ rfl
     have ZE:jC.heap[V2.heap.size+1+1]? =some (.cells #[] 55 (0,0)):=by rw[hW];exact gv [_,_,_] V2 2 _ rfl
     have q4:jC.cell? ⟨wr.heap.size,4,none⟩=some (.slice C4 M.f4.length b4):=by rw[hW];exact ak (ak (ak y4))
     have HN:Hid (Kd.N eE 55 jC (V2.heap.size+1+1) (fun q=>q≠V2.heap.size/\q≠V2.heap.size+1) (.slice (some ⟨V2.heap.size+1+1,0,none⟩) 0 0) []):=hd (qa ZE (aU _) (fun k hk=>⟨by omega,by omega⟩));have PO:Hid (Kd.F eE jC (fun q=>q<V2.heap.size) C4 M.f4.length M.f4):=hd (Kd.bS (Kd.C_F Cn g4) V0);have IB:Hid (∀q,q<V2.heap.size->(q≠V2.heap.size/\q≠V2.heap.size+1)/\some q≠(Value.slice (some ⟨V2.heap.size+1+1,0,none⟩) 0 0).ownBlock):=hd (fun q hq=>⟨⟨by omega,by omega⟩,fun e=>by simp[Value.ownBlock]at e;omega⟩);have Qb:Hid (∀q,jC.heap.size<=q->q≠V2.heap.size/\q≠V2.heap.size+1):=hd (fun q hq=>by rw[V4]at hq;constructor<;>omega);have pY:Hid ((V2.heap.size+1+1)<=jC.heap.size):=hd (by rw[V4];omega);have uT:(([]:List dV).length+M.f4.length)*24<=140737488355328:=by have:=qw.o.n4;simp;omega
     have uN:(M.f4.length+1)*24<=140737488355328:=by have:=qw.o.n4;omega
     have HL9:=hd uT;have RZ:=hd uN;clear uT uN;have pT:=hd V0;have oC:=hd ZA;have ael:=hd ZC;clear V0 ZA ZC ZE V4 g4;subst hW;rcases Nat.lt_or_ge 256 (M.f4.length+1)with cl|cl
     case' inl=>have gl:decide ((M.f4.length:Int)+1<=256)=false:=by simp only[iy];omega
     case' inr=>have gl:((M.f4.length:Int)+1<=256):=by omega
     case' inr=>have G4:=hd cl;clear cl
     all_goals go_wp2_with (first|(at_builtin;(refine Kd.gj eE (w0:=_) (V2.heap.size+1+1) rfl (.tmp 40) (.tmp 42) 32 55 (.agg #[.int .i64 0,.bool false,.int .u64 0]) 24 rfl underlying32 nA rfl (dG _) (dG _) (.slice (some ⟨V2.heap.size+1+1,0,none⟩) 0 0) [] M.f4 C4 M.f4.length b4 (fun q=>q≠V2.heap.size/\q≠V2.heap.size+1) (fun q=>q<V2.heap.size) rfl rfl HN.o PO.o IB.o Qb.o (ay _ _) pY.o HL9.o ?_);intro v9 w9 hR hB hG hat;have hR:Kd.N eE 55 w9 (V2.heap.size+1+1) (fun q=>q≠V2.heap.size/\q≠V2.heap.size+1) v9 M.f4:=hR;obtain⟨P9,k9,e9⟩:=Kd.cg hR;subst e9;have od:=hd hR;have iZ:=hd hB;clear hR hB hG hat)|(at_builtin;(refine Kd.tL eE (w0:=_) (V2.heap.size+1+1) rfl (.tmp 43) (.tmp 45) 32 55 (.agg #[.int .i64 0,.bool false,.int .u64 0]) 24 rfl underlying32 nA rfl (dG _) (dG _) (.slice P9 M.f4.length k9) M.f4 (⟨124,false,0⟩:dV) [.int .i64 124,.bool false,.int .u64 0] (fun q=>q≠V2.heap.size/\q≠V2.heap.size+1) (fun _=>False) rfl rfl (fun W' hW=>lK W' (⟨124,false,0⟩:dV)) (fun _ hq=>hq.elim) (fun q hq=>Qb.o q (cG iZ.o.size hq)) od.o iZ.o (cG pY.o iZ.o.size) RZ.o ?_);intro v8 w8 hR hB hG hat;obtain⟨P8,k8,e8⟩:=Kd.cg hR;have hlen:(M.f4++ [(⟨124,false,0⟩:dV)]).length=M.f4.length+1:=(by simp);rw[hlen]at e8;subst e8;have WQ:Below V2.heap.size V2 w8:=pT.o.trans (hB.mono (show V2.heap.size<=(V2.heap.size+1+1) by omega));have sr:=(hB.block V2.heap.size (show V2.heap.size<V2.heap.size+1+1 by omega)).trans oC.o;have hc8:=(hB.block (V2.heap.size+1) (show V2.heap.size+1<V2.heap.size+1+1 by omega)).trans ael.o;have zb:w8.cell? ⟨V2.heap.size,4,none⟩=some (.slice C4 M.f4.length b4):=(aa sr 4).trans rfl;have fb:w8.frozen? ⟨V2.heap.size,4,none⟩=false:=ah sr 4;obtain⟨yh,SK⟩:=ey ((World.setCell w8 ⟨V2.heap.size,4,none⟩ (.slice P8 (M.f4.length+1) k8)));have ZF:yh.heap[V2.heap.size]? =some (.cells #[.slice C0 M.f0.length b0,.slice C1 M.f1.length b1,.slice C2 M.f2.length b2,.slice C3 M.f3.length b3,.slice P8 (M.f4.length+1) k8,.slice none 0 0,.slice C6 M.f6.length b6,.slice (some ⟨V2.heap.size+1,0,none⟩) 1 1] 37 (0,0)):=(by rw[<-SK];exact bC sr 4 _);have ZG:yh.heap[V2.heap.size+1]? =some (.cells #[.string ⟨#[109,111,114,101]⟩,.slice none 0 0] 53 (0,0)):=(by rw[<-SK];exact bR hc8 (p:=⟨V2.heap.size,4,none⟩) (Nat.succ_ne_self _) _);have SL:=Kd.My hR (p:=⟨V2.heap.size,4,none⟩) (fun q hq=>hq.1) (.slice P8 (M.f4.length+1) k8);have V5:Below V2.heap.size V2 yh:=(by rw[<-SK];exact aK WQ (aU _));rw[SK]at SL;obtain⟨u0,u1,u2,u3,u4,u5,u6,u7⟩:=rG ZF;have V6:=Cq (Cp (Co (iT.K (fun q hq=>V5.block q hq) Zz.o) (xs:=(M.f4++ [(⟨124,false,0⟩:dV)])) (A:=P8) (c:=k8) (by rw[hlen];exact(Kd.eN SL).2.1) (Kd.eN SL).2.2) (xs:= []) (A:=none) (c:=0) (aU 0) (Kd.iw _ _)) (xs:= [⟨⟨#[109,111,114,101]⟩,[]⟩]) (A:=some ⟨V2.heap.size+1,0,none⟩) (c:=1) (aU 1) (oB (cells:= [.string ⟨#[109,111,114,101]⟩,.slice none 0 0]) (xs:= [(⟨⟨#[109,111,114,101]⟩,[]⟩:jA)]) ZG ((dU.none _ _).snoc (xA yh ⟨⟨#[109,111,114,101]⟩,[]⟩ (aU 0) (Kd.iw _ _)) rfl) (show 1<=9223372036854775807 by decide));rw[hlen]at V6;have aem:Hid (bZ.K yh (Sp.more M) _):=hd V6;clear V6;have rD:=hd V5;clear WQ sr hc8 ZF ZG SL V5 hlen;clear hR hB hG hat))
     ·skip
      refine(show Calls prog 18 _ yh (lg 0 yh)from Sp.FO HE.o G4.o▸oy (Sp.more M) _ 2 yh aem.o (by have h:=qw.o.n1;show M.f1.length<=_;omega) (by have h:=qw.o.n2;show M.f2.length<=_;omega) (fun i=>by unfold cu Sp.more;simp;decide)).mono ?_;rintro e V3⟨rfl,hb3⟩;have cC:=hd hb3;clear hb3
      go_wp2_with fail
      have VV:=hd (WO.o.below (az mN.o (az HV2.o (az rD.o cC.o))))
      go_roundw
      case rel=>exact⟨j+1,by have:=HJ.o;omega,by go_num,VV⟩
      case measure=>have:=HJ.o;simp[intOf];omega
     ·skip
      have VV:=hd (WO.o.below (az mN.o (az HV2.o rD.o)))
      go_roundw
      case rel=>exact⟨j+1,by have:=HJ.o;omega,by go_num,VV⟩
      case measure=>have:=HJ.o;simp[intOf];omega
end Go.Proofs.YthehihjcpiadgaaGreat
