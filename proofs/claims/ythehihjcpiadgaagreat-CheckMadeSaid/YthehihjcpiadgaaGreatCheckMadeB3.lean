import Derived.Test.YthehihjcpiadgaaGreatCheckMadeB1
set_option maxRecDepth 100000
set_option maxHeartbeats 0
set_option linter.all false
open Go.Proofs.Tryz
section
theorem Go.Proofs.Wz.PrintWords.bu.o {p:Prop} (h:Go.Proofs.Wz.PrintWords.bu p):p:=h.out
end
namespace Go.Proofs.YthehihjcpiadgaaGreat
open Go.RowKit Go.Proofs.Wz.PrintWords Go.Proofs.Wz.bM Go.Proofs.Wz.vg
attribute [local go_sem] El Em IM IP Bt Bu En Eo
def abF:Option Int->Value
 |none=> .nilIface
 |some c=> .iface 0 (.int .i64 c)
theorem cV:abF none= .nilIface:=rfl
theorem cW(c:Int):abF (some c)= .iface 0 (.int .i64 c):=rfl
theorem SV:(prog.info? 5).map (fun i=>(i.zero,i.size,i.bytes))=some (some (.int .u8 0),1,1):=by kernel_rfl
structure gR where
 f0:Int
 f1:Int
 f2:Int
 f3:Int
def Xd:gR:=⟨(0:Int),(0:Int),(0:Int),(0:Int)⟩
def yJ:Kd gR:=Kd.Gy (Kd.pair (Kd.int .u8) (Kd.pair (Kd.int .u8) (Kd.pair (Kd.int .i64) (Kd.int .u32)))) (fun x:gR=>(x.f0,x.f1,x.f2,x.f3))
theorem Kb{w:World}{x:gR}{cs:List Value}(h:yJ.K w x cs):cs= [.int .u8 x.f0,.int .u8 x.f1,.int .i64 x.f2,.int .u32 x.f3]:=by
 obtain⟨_,_,rfl,rfl,⟨_,_,rfl,rfl,⟨_,_,rfl,rfl,rfl⟩⟩⟩:=h;exact rfl
theorem tX(w:World)(base:Nat)(ok:Nat->Prop)(x:gR):yJ.M w base ok x [.int .u8 x.f0,.int .u8 x.f1,.int .i64 x.f2,.int .u32 x.f3]:=⟨[.int .u8 x.f0],[.int .u8 x.f1,.int .i64 x.f2,.int .u32 x.f3],rfl,rfl,⟨[.int .u8 x.f1],[.int .i64 x.f2,.int .u32 x.f3],rfl,rfl,⟨[.int .i64 x.f2],[.int .u32 x.f3],rfl,rfl,rfl⟩⟩⟩
def ax(xs:List gR)(i:Int):gR:=xs.getD i.toNat Xd
theorem QO{w:World}{A:Option Addr}{n:Nat}{xs:List gR}(h:Kd.C yJ w A n xs)(i:Int)(h0:0<=i)(h1:i<n): ∃ad,A=some ad/\w.cell? (ad.add (i.toNat*4))=some (.int .u8 (ax xs i).f0)/\w.cell? ⟨(ad.add (i.toNat*4)).block,(ad.add (i.toNat*4)).off+1,none⟩=some (.int .u8 (ax xs i).f1)/\w.cell? ⟨(ad.add (i.toNat*4)).block,(ad.add (i.toNat*4)).off+2,none⟩=some (.int .i64 (ax xs i).f2)/\w.cell? ⟨(ad.add (i.toNat*4)).block,(ad.add (i.toNat*4)).off+3,none⟩=some (.int .u32 (ax xs i).f3):=by
 obtain⟨ad,c,e,_,hK,hc0⟩:=Kd.og h Xd i h0 h1;have hc: ∀j u,c[j]? =some u->w.cell? (ad.add (i.toNat*4+j))=some u:=hc0;obtain rfl:=Kb hK;exact⟨ad,e,hc 0 _ rfl,by rw[<-bV _ _ 1 (by omega)];exact hc 1 _ rfl,by rw[<-bV _ _ 2 (by omega)];exact hc 2 _ rfl,by rw[<-bV _ _ 3 (by omega)];exact hc 3 _ rfl⟩
end Go.Proofs.YthehihjcpiadgaaGreat
namespace Go.Proofs.YthehihjcpiadgaaGreat
open Go.RowKit Go.Proofs.Wz.PrintWords Go.Proofs.Wz.bM Go.Proofs.Wz.vg
attribute [local go_sem] El Em IM IP Bt Bu En Eo
def jR.f:Option ((List (gR))):=some (([(⟨128,0,0,0⟩:gR),(⟨224,192,1,128⟩:gR),(⟨240,224,2,2048⟩:gR),(⟨248,240,3,65536⟩:gR)]:List (gR)))
theorem jR.calls(r:List (gR))(w:World)(h:jR.f=some r):
 Calls prog 222 #[] w fun e w'=> ∃v0_:Value,e= .returned (v0_)/\Kd.R yJ 231 w' w.heap.size (fun _=>True) v0_ r/\Below w.heap.size w w':=by
 have Xe:=underlying231;have HB:=bu.mk (ay w.heap.size w);have H:(some (([(⟨128,0,0,0⟩:gR),(⟨224,192,1,128⟩:gR),(⟨240,224,2,2048⟩:gR),(⟨248,240,3,65536⟩:gR)]:List (gR))))=some r:=h;clear h;obtain⟨abG,Ev⟩: ∃y_:List (gR),y_=(([(⟨128,0,0,0⟩:gR),(⟨224,192,1,128⟩:gR),(⟨240,224,2,2048⟩:gR),(⟨248,240,3,65536⟩:gR)]:List (gR))):=⟨_,rfl⟩;replace H:(some abG)=some r:=by first|(rw[Ev];with_reducible exact H)|(have T9:=(Option.bind_some _ _).symm.trans H;rw[Ev];with_reducible exact T9)|(have T9:=(Option.bind_some _ _).symm.trans H;with_reducible exact T9)|with_reducible exact H|(rw[Ev];exact H)|exact H
 have SX:=bu.mk Ev;clear Ev;obtain rfl:=Option.some.inj H
 go_enter func222,ntmps222
 go_wp2_with (first|((with_reducible refine tG (N:=5) rfl ?_);refine Kd.WS yJ _ 231 ?hg (N:=5) ?hd (xs:=([(⟨128,0,0,0⟩:gR),(⟨224,192,1,128⟩:gR),(⟨240,224,2,2048⟩:gR),(⟨248,240,3,65536⟩:gR)]:List (gR))) (inner:= [.int .u8 128,.int .u8 0,.int .i64 0,.int .u32 0,.int .u8 224,.int .u8 192,.int .i64 1,.int .u32 128,.int .u8 240,.int .u8 224,.int .i64 2,.int .u32 2048,.int .u8 248,.int .u8 240,.int .i64 3,.int .u32 65536]) (ok:=fun _=>True) (kK:=fun _=>True) ?hr ?hp (fun _ hk=>hk) trivial (ay _ _) (aU _) (by simp) ?_;(case hd=>rfl);(case hg=>rfl);(case hr=>first|(go_simp;done)|(go_simp;rfl));(case hp=>exact(dU.c4 (show Kd.M yJ _ _ _ (⟨128,0,0,0⟩:gR) [.int .u8 128,.int .u8 0,.int .i64 0,.int .u32 0]from(tX _ _ _ (⟨128,0,0,0⟩:gR))) (dU.c4 (show Kd.M yJ _ _ _ (⟨224,192,1,128⟩:gR) [.int .u8 224,.int .u8 192,.int .i64 1,.int .u32 128]from(tX _ _ _ (⟨224,192,1,128⟩:gR))) (dU.c4 (show Kd.M yJ _ _ _ (⟨240,224,2,2048⟩:gR) [.int .u8 240,.int .u8 224,.int .i64 2,.int .u32 2048]from(tX _ _ _ (⟨240,224,2,2048⟩:gR))) (dU.c4 (show Kd.M yJ _ _ _ (⟨248,240,3,65536⟩:gR) [.int .u8 248,.int .u8 240,.int .i64 3,.int .u32 65536]from(tX _ _ _ (⟨248,240,3,65536⟩:gR))) (dU.none _ _))))));intro agc w1 TR hb hg_ Xf;clear hg_ Xf;(first|rw[<-SX.o]at TR|(simp only[Int.reduceToNat]at TR;rw[<-SX.o]at TR));have tY:=bu.mk (Kd.eH TR (gQ (by repeat (first|(with_reducible first|exact HB.o|apply af|apply aq|apply aN)|exact HB.o))));have wI:=bu.mk (az (by repeat (first|(with_reducible first|exact HB.o|apply af|apply aq|apply aN)|exact HB.o)) hb);clear HB;have Xg:=tY;have HB:=wI;clear tY wI;clear hb TR))
 go_ret;exact⟨_,by first|rfl|(simp[cV,cW]<;>rfl)|(simp[*,cV,cW]<;>rfl),by(with_reducible repeat (first|apply Kd.aZ|apply Kd.bU|apply Kd.fu));exact Xg.o,by repeat (first|(with_reducible first|exact HB.o|apply af|apply aq|apply aN)|exact HB.o)⟩
mutual
def bH.l0:Nat->List Int->List (gR)->Int->Int->Option (Int)
 |0,_,_,_,_=>none
 |k+1,x0,x8,x9,eo=>if eo<x9 then(if 0<=eo then(if eo<(x8.length:Int)then(if 0<(x0.length:Int)then(if(Go.bits .and .u8 (rd x0 0) ((ax x8 eo).f0))=((ax x8 eo).f1)then(bH.j1 k x0 x8 x9 eo (decide ((x0.length:Int)<=((ax x8 eo).f2))) ((ax x8 eo).f0) ((ax x8 eo).f1) ((ax x8 eo).f2) ((ax x8 eo).f3))else(bH.j1 k x0 x8 x9 eo true ((ax x8 eo).f0) ((ax x8 eo).f1) ((ax x8 eo).f2) ((ax x8 eo).f3)))else(none))else(none))else(none))else(some 0)
def bH.j1:Nat->List Int->List (gR)->Int->Int->Bool->Int->Int->Int->Int->Option (Int)
 |0,_,_,_,_,_,_,_,_,_=>none
 |k+1,x0,x8,x9,eo,x29,xG,CK,mz,xH=>if x29=true then(bH.l0 k x0 x8 x9 (wrap64 (eo+1)))else(if 0<(x0.length:Int)then(if 1<=(wrap64 (1+mz))then(if(wrap64 (1+mz))<=(x0.length:Int)then(bH.l1 k ((Go.bits .andNot .u8 (rd x0 0) xG)%4294967296) ((x0.take ((wrap64 (1+mz)):Int).toNat).drop 1) (((x0.take ((wrap64 (1+mz)):Int).toNat).drop 1).length:Int) 0 xG CK mz xH)else(none))else(none))else(none))
def bH.l1:Nat->Int->List Int->Int->Int->Int->Int->Int->Int->Option (Int)
 |0,_,_,_,_,_,_,_,_=>none
 |k+1,x5,ZH,x42,V8,xG,CK,mz,xH=>if V8<x42 then(if 0<=V8 then(if V8<(ZH.length:Int)then(if(Go.bits .and .u8 (rd ZH V8) 192)=128 then(bH.l1 k (Go.bits .or .u32 ((x5*64)%4294967296) ((Go.bits .and .u8 (rd ZH V8) 63)%4294967296)) ZH x42 (wrap64 (V8+1)) xG CK mz xH)else(some 0))else(none))else(none))else(if x5<xH then(some 0)else(if x5≥55296 then(if x5<=57343 then(some 0)else(if x5>1114111 then(some 0)else(some (wrap64 (1+mz)))))else(if x5>1114111 then(some 0)else(some (wrap64 (1+mz))))))
end
def bH.f(k:Nat)(l0:List Int):Option (Int):=(jR.f).bind fun bp=>(bH.l0 k l0 bp (bp.length:Int) 0)
theorem bH.calls(k:Nat)(A0:Option Addr)(c0:Nat)(l0:List Int)(r:Int)(w:World)(Xh:Kd.C (Kd.int .u8) w A0 l0.length l0)(hc0:l0.length<=c0)(h:bH.f k l0=some r):
 Calls prog 212 #[.slice A0 l0.length c0] w fun e w'=>e= .returned (.int .i64 r)/\Below w.heap.size w w':=by
 have Xe:=underlying231;have Wa:=bu.mk Xh;have Xi:=bu.mk hc0;clear Xh hc0;have HB:=bu.mk (ay w.heap.size w);have H:((jR.f).bind fun bp=>(bH.l0 k l0 bp (bp.length:Int) 0))=some r:=h;clear h;replace H:=Option.bind_eq_some_iff.mp H;obtain⟨bp,Wc,H⟩:=H;replace H:(bH.l0 k l0 bp (bp.length:Int) 0)=some r:=H;have A2:=bu.mk Wc;clear Wc;have H':=bu.mk H;clear H
 go_enter func212,ntmps212
 go_wp2_with (first|(go_at_call 222;(with_reducible refine(jR.calls bp _ A2.o).mono ?_);rintro e w3⟨Xj,rfl,SY,hb⟩;have tY:=bu.mk (Kd.eH SY (gQ (by repeat (first|(with_reducible first|exact HB.o|apply af|apply aq|apply aN)|exact HB.o))));have wI:=bu.mk (az (by repeat (first|(with_reducible first|exact HB.o|apply af|apply aq|apply aN)|exact HB.o)) hb);clear HB;have BA:=tY;have HB:=wI;clear tY wI;(try clear hb);(try clear hb2);(try clear hk);(try clear hi);(try clear SY);obtain⟨Ao4,ZI,Xk⟩:=Kd.ai BA.o;subst Xk))
 repeat (go_quiet (first|(go_at_call 222;(with_reducible refine(jR.calls bp _ A2.o).mono ?_);rintro e w3⟨Xj,rfl,SY,hb⟩;have tY:=bu.mk (Kd.eH SY (gQ (by repeat (first|(with_reducible first|exact HB.o|apply af|apply aq|apply aN)|exact HB.o))));have wI:=bu.mk (az (by repeat (first|(with_reducible first|exact HB.o|apply af|apply aq|apply aN)|exact HB.o)) hb);clear HB;have BA:=tY;have HB:=wI;clear tY wI;(try clear hb);(try clear hb2);(try clear hk);(try clear hi);(try clear SY);obtain⟨Ao4,ZI,Xk⟩:=Kd.ai BA.o;subst Xk));try go_wp2_with (first|(go_at_call 222;(with_reducible refine(jR.calls bp _ A2.o).mono ?_);rintro e w3⟨Xj,rfl,SY,hb⟩;have tY:=bu.mk (Kd.eH SY (gQ (by repeat (first|(with_reducible first|exact HB.o|apply af|apply aq|apply aN)|exact HB.o))));have wI:=bu.mk (az (by repeat (first|(with_reducible first|exact HB.o|apply af|apply aq|apply aN)|exact HB.o)) hb);clear HB;have BA:=tY;have HB:=wI;clear tY wI;(try clear hb);(try clear hb2);(try clear hk);(try clear hi);(try clear SY);obtain⟨Ao4,ZI,Xk⟩:=Kd.ai BA.o;subst Xk)))
 go_loopg [10] k (fun kq v10 w'=> ∃(aL:Int),v10= .int .i64 aL/\bu (bH.l0 kq l0 bp (bp.length:Int) aL=some r)/\bu (kq<=k)/\bu (Kd.R yJ 231 w' w.heap.size (fun _=>True) (.slice Ao4 bp.length ZI) bp)/\bu (Below w.heap.size w w'))
 case atStart=>exact⟨(0),(by first|rfl|(simp;done)|(simp[*];done)),H',⟨aU _⟩,⟨by(with_reducible repeat (first|apply Kd.aZ|apply Kd.bU|apply Kd.fu));exact BA.o⟩,⟨by repeat (first|(with_reducible first|exact HB.o|apply af|apply aq|apply aN)|exact HB.o)⟩⟩
 case round=>
  clear H'
  try clear c2
  try clear p2
  obtain⟨aL,rfl,HA,Ke,tZ,HB⟩:=hrel;cases gk with
  |zero=>exact absurd HA.o (by simp[bH.l0])
  |succ k1=>
   have H:=HA.o;clear HA;simp only[bH.l0]at H;by_cases c5:aL<(bp.length:Int)
   ·rw[if_pos c5]at H
    have Ua:decide (aL<(bp.length:Int))=true:=iz c5;clear c5;by_cases c6:0<=aL
    ·rw[if_pos c6]at H
     have Xl:decide (0<=aL)=true:=iz c6;clear c6;by_cases c7:aL<(bp.length:Int)
     ·rw[if_pos c7]at H
      have Ub:decide (aL<(bp.length:Int))=true:=iz c7;clear c7;have HC8:=bu.mk H;clear H;have MM:0<=(aL:Int):=of_decide_eq_true (by first|(with_reducible assumption)|assumption);have MN:aL<(bp.length:Int):=of_decide_eq_true (by first|(with_reducible assumption)|assumption);obtain⟨Xm,abJ,IY,IZ,I2,I3⟩:=QO (Kd.bA tZ.o).2.2 aL MM MN;cases abJ;replace MM:=eq_true MM;replace MN:=eq_true MN
      go_upto_region 4 with(first|((with_reducible refine tG (N:=4) rfl ?_);(try (refine sI (by rfl) ?_;dsimp only));refine uY ?hg (N:=4) ?hd (cs:=#[.int .u8 0,.int .u8 0,.int .i64 0,.int .u32 0]) (t:=231) ?hr ?_;(case hd=>rfl);(case hg=>rfl);(case hr=>first|(go_simp;done)|(go_simp;rfl));intro bz hg w9 ua hb;have tY:=bu.mk (Kd.cM (Kd.yq (by(with_reducible repeat (first|apply Kd.aZ|apply Kd.bU|apply Kd.fu));exact tZ.o) bz (Nat.le_of_eq hg.symm)) hb);have wI:=bu.mk (az (by repeat (first|(with_reducible first|exact HB.o|apply af|apply aq|apply aN)|exact HB.o)) hb);have SZ:=bu.mk (ua);have S0:=bu.mk ((by rw[hg];exact(gQ (by repeat (first|(with_reducible first|exact HB.o|apply af|apply aq|apply aN)|exact HB.o))):w.heap.size<=bz));have S1:=bu.mk ((by rw[hg];exact(gQ (by repeat (first|(with_reducible first|exact HB.o|apply af|apply aq|apply aN)|exact HB.o))):w.heap.size<=bz));clear tZ;clear HB;have tZ:=tY;have HB:=wI;have bn:=SZ;have sw:=S0;have nK:=S1;clear tY wI SZ S0 S1;clear hb ua hg;have xI:w9.cell? ⟨bz,0,none⟩=some (.int .u8 0):=(aa bn.o 0).trans rfl;have xJ:w9.cell? ⟨bz,1,none⟩=some (.int .u8 0):=(aa bn.o 1).trans rfl;have xK:w9.cell? ⟨bz,2,none⟩=some (.int .i64 0):=(aa bn.o 2).trans rfl;have xL:w9.cell? ⟨bz,3,none⟩=some (.int .u32 0):=(aa bn.o 3).trans rfl;have xM:=ah bn.o 0;have xN:=ah bn.o 1;have xO:=ah bn.o 2;have xP:=ah bn.o 3))
      repeat (go_quiet (first|((with_reducible refine tG (N:=4) rfl ?_);(try (refine sI (by rfl) ?_;dsimp only));refine uY ?hg (N:=4) ?hd (cs:=#[.int .u8 0,.int .u8 0,.int .i64 0,.int .u32 0]) (t:=231) ?hr ?_;(case hd=>rfl);(case hg=>rfl);(case hr=>first|(go_simp;done)|(go_simp;rfl));intro bz hg w9 ua hb;have tY:=bu.mk (Kd.cM (Kd.yq (by(with_reducible repeat (first|apply Kd.aZ|apply Kd.bU|apply Kd.fu));exact tZ.o) bz (Nat.le_of_eq hg.symm)) hb);have wI:=bu.mk (az (by repeat (first|(with_reducible first|exact HB.o|apply af|apply aq|apply aN)|exact HB.o)) hb);have SZ:=bu.mk (ua);have S0:=bu.mk ((by rw[hg];exact(gQ (by repeat (first|(with_reducible first|exact HB.o|apply af|apply aq|apply aN)|exact HB.o))):w.heap.size<=bz));have S1:=bu.mk ((by rw[hg];exact(gQ (by repeat (first|(with_reducible first|exact HB.o|apply af|apply aq|apply aN)|exact HB.o))):w.heap.size<=bz));clear tZ;clear HB;have tZ:=tY;have HB:=wI;have bn:=SZ;have sw:=S0;have nK:=S1;clear tY wI SZ S0 S1;clear hb ua hg;have xI:w9.cell? ⟨bz,0,none⟩=some (.int .u8 0):=(aa bn.o 0).trans rfl;have xJ:w9.cell? ⟨bz,1,none⟩=some (.int .u8 0):=(aa bn.o 1).trans rfl;have xK:w9.cell? ⟨bz,2,none⟩=some (.int .i64 0):=(aa bn.o 2).trans rfl;have xL:w9.cell? ⟨bz,3,none⟩=some (.int .u32 0):=(aa bn.o 3).trans rfl;have xM:=ah bn.o 0;have xN:=ah bn.o 1;have xO:=ah bn.o 2;have xP:=ah bn.o 3));go_upto_region 4 with(first|((with_reducible refine tG (N:=4) rfl ?_);(try (refine sI (by rfl) ?_;dsimp only));refine uY ?hg (N:=4) ?hd (cs:=#[.int .u8 0,.int .u8 0,.int .i64 0,.int .u32 0]) (t:=231) ?hr ?_;(case hd=>rfl);(case hg=>rfl);(case hr=>first|(go_simp;done)|(go_simp;rfl));intro bz hg w9 ua hb;have tY:=bu.mk (Kd.cM (Kd.yq (by(with_reducible repeat (first|apply Kd.aZ|apply Kd.bU|apply Kd.fu));exact tZ.o) bz (Nat.le_of_eq hg.symm)) hb);have wI:=bu.mk (az (by repeat (first|(with_reducible first|exact HB.o|apply af|apply aq|apply aN)|exact HB.o)) hb);have SZ:=bu.mk (ua);have S0:=bu.mk ((by rw[hg];exact(gQ (by repeat (first|(with_reducible first|exact HB.o|apply af|apply aq|apply aN)|exact HB.o))):w.heap.size<=bz));have S1:=bu.mk ((by rw[hg];exact(gQ (by repeat (first|(with_reducible first|exact HB.o|apply af|apply aq|apply aN)|exact HB.o))):w.heap.size<=bz));clear tZ;clear HB;have tZ:=tY;have HB:=wI;have bn:=SZ;have sw:=S0;have nK:=S1;clear tY wI SZ S0 S1;clear hb ua hg;have xI:w9.cell? ⟨bz,0,none⟩=some (.int .u8 0):=(aa bn.o 0).trans rfl;have xJ:w9.cell? ⟨bz,1,none⟩=some (.int .u8 0):=(aa bn.o 1).trans rfl;have xK:w9.cell? ⟨bz,2,none⟩=some (.int .i64 0):=(aa bn.o 2).trans rfl;have xL:w9.cell? ⟨bz,3,none⟩=some (.int .u32 0):=(aa bn.o 3).trans rfl;have xM:=ah bn.o 0;have xN:=ah bn.o 1;have xO:=ah bn.o 2;have xP:=ah bn.o 3)))
      (try simp only[Act.put,List.setIfInBounds_toArray,List.set_cons_zero,List.set_cons_succ])
      go_cut [29] (fun v29 wc=> ∃(kq:Nat) (I4:Bool),v29= .bool I4/\bu (bH.j1 kq l0 bp (bp.length:Int) aL I4 ((ax bp aL).f0) ((ax bp aL).f1) ((ax bp aL).f2) ((ax bp aL).f3)=some r)/\bu (kq<=k1)/\bu (Kd.R yJ 231 wc w.heap.size (fun k_=>k_≠bz) (.slice (some Xm) bp.length ZI) bp)/\bu (wc.heap[bz]? =some (.cells #[.int .u8 ((ax bp aL).f0),.int .u8 ((ax bp aL).f1),.int .i64 ((ax bp aL).f2),.int .u32 ((ax bp aL).f3)] 231 (0,0)))/\bu (Below w.heap.size w wc))
      case first=>
       have H:=HC8.o;clear HC8;by_cases c11:0<(l0.length:Int)
       ·rw[if_pos c11]at H
        have I5:decide (0<(l0.length:Int))=true:=iz c11;have S3:decide (0<l0.length)=true:=iz (by omega);clear c11
        (first|rw[I5]|(simp only[ja,jf];rw[I5])|skip)
        by_cases c12:(Go.bits .and .u8 (rd l0 0) ((ax bp aL).f0))=((ax bp aL).f1)
        ·rw[if_pos c12]at H
         have MO:((Go.bits .and .u8 (rd l0 0) ((ax bp aL).f0))==((ax bp aL).f1))=true:=beq_iff_eq.mpr c12;have MQ:((Go.bits .and .u8 (rd l0 0) ((ax bp aL).f0)) !=((ax bp aL).f1))=false:=bne_eq_false_iff_eq.mpr c12;clear c12;have H':=bu.mk H;clear H;have CL:0<=(0:Int):=(by omega);have CM:0<(l0.length:Int):=of_decide_eq_true (by first|(with_reducible assumption)|assumption);obtain⟨ud,Uc,ck⟩:=Kd.fQ Wa.o 0 CL CM;cases Uc;have Xn:(0<l0.length)=True:=eq_true (by omega)
         (try rw[show((0:Int)).toNat=0 from rfl]at ck)
         (try rw[Addr.add_zero']at ck)
         have mA:ud.block≠bz:=Nat.ne_of_lt (jv (by have:=aR _ _ ck;first|rwa[add_block]at this|exact this) sw.o);have mC:ud.block≠bz:=Nat.ne_of_lt (jv (by have:=aR _ _ ck;first|rwa[add_block]at this|exact this) sw.o);have mD:ud.block≠bz:=Nat.ne_of_lt (jv (by have:=aR _ _ ck;first|rwa[add_block]at this|exact this) sw.o);have mE:ud.block≠bz:=Nat.ne_of_lt (jv (by have:=aR _ _ ck;first|rwa[add_block]at this|exact this) sw.o);replace ck:=(HB.o.cell (aR w _ ck)).trans ck;replace ck:=(cell_far (p:=⟨bz,0,none⟩) (by first|(rw[add_block];exact mA)|(show(Addr.add _ _).block≠_;rw[add_block];exact mA)|exact mA) (.int .u8 ((ax bp aL).f0))).trans ck;replace ck:=(cell_far (p:=⟨bz,1,none⟩) (by first|(rw[add_block];exact mC)|(show(Addr.add _ _).block≠_;rw[add_block];exact mC)|exact mC) (.int .u8 ((ax bp aL).f1))).trans ck;replace ck:=(cell_far (p:=⟨bz,2,none⟩) (by first|(rw[add_block];exact mD)|(show(Addr.add _ _).block≠_;rw[add_block];exact mD)|exact mD) (.int .i64 ((ax bp aL).f2))).trans ck;replace ck:=(cell_far (p:=⟨bz,3,none⟩) (by first|(rw[add_block];exact mE)|(show(Addr.add _ _).block≠_;rw[add_block];exact mE)|exact mE) (.int .u32 ((ax bp aL).f3))).trans ck
         (try have QS:=fun(n_:Nat)=>(show((((((w9.drewN n_).setCell ⟨bz,0,none⟩ (.int .u8 ((ax bp aL).f0))).setCell ⟨bz,1,none⟩ (.int .u8 ((ax bp aL).f1))).setCell ⟨bz,2,none⟩ (.int .i64 ((ax bp aL).f2))).setCell ⟨bz,3,none⟩ (.int .u32 ((ax bp aL).f3)))).cell? _=some _ from ck))
         clear mA;clear mC;clear mD;clear mE;replace CL:=eq_true CL;replace CM:=eq_true CM;have I6:w9.cell? ⟨bz,0,none⟩=some (.int .u8 0):=(aa bn.o 0).trans rfl;have I7:w9.cell? ⟨bz,1,none⟩=some (.int .u8 0):=(aa bn.o 1).trans rfl;have I8:w9.cell? ⟨bz,2,none⟩=some (.int .i64 0):=(aa bn.o 2).trans rfl;have I9:w9.cell? ⟨bz,3,none⟩=some (.int .u32 0):=(aa bn.o 3).trans rfl;have Ja:=ah bn.o 0;have Jb:=ah bn.o 1;have Jc:=ah bn.o 2;have Jd:=ah bn.o 3
         go_wp2
         repeat (go_quiet (fail);try go_wp2)
         go_meet
         case rel=>exact⟨_,(decide ((l0.length:Int)<=((ax bp aL).f2))),(by first|rfl|(simp;done)|(simp[*];done)),H',⟨by have:=Ke.o;first|omega|exact aU _⟩,⟨by(with_reducible repeat (first|apply Kd.aZ|apply Kd.bU|apply Kd.fu));exact Kd.bQ (Kd.dr (p:=⟨bz,3,none⟩) (Kd.dr (p:=⟨bz,2,none⟩) (Kd.dr (p:=⟨bz,1,none⟩) (Kd.dr (p:=⟨bz,0,none⟩) (Kd.bQ tZ.o (fun k_ hk=>(⟨hk,hk.2⟩:_/\k_≠bz))) (fun _ hk=>hk.2) (.int .u8 ((ax bp aL).f0))) (fun _ hk=>hk.2) (.int .u8 ((ax bp aL).f1))) (fun _ hk=>hk.2) (.int .i64 ((ax bp aL).f2))) (fun _ hk=>hk.2) (.int .u32 ((ax bp aL).f3))) (fun _ hk=>hk.1.2)⟩,⟨by(with_reducible repeat (first|refine ez ?_ _|refine dM ?_|refine bh ?_ _));refine nG (cs:=#[.int .u8 ((ax bp aL).f0),.int .u8 ((ax bp aL).f1),.int .i64 ((ax bp aL).f2),.int .u32 0]) ?_ 3 _ rfl;(with_reducible repeat (first|refine ez ?_ _|refine dM ?_|refine bh ?_ _));refine nG (cs:=#[.int .u8 ((ax bp aL).f0),.int .u8 ((ax bp aL).f1),.int .i64 0,.int .u32 0]) ?_ 2 _ rfl;(with_reducible repeat (first|refine ez ?_ _|refine dM ?_|refine bh ?_ _));refine nG (cs:=#[.int .u8 ((ax bp aL).f0),.int .u8 0,.int .i64 0,.int .u32 0]) ?_ 1 _ rfl;(with_reducible repeat (first|refine ez ?_ _|refine dM ?_|refine bh ?_ _));refine nG (cs:=#[.int .u8 0,.int .u8 0,.int .i64 0,.int .u32 0]) ?_ 0 _ rfl;(with_reducible repeat (first|refine ez ?_ _|refine dM ?_|refine bh ?_ _));exact bn.o⟩,⟨by repeat (first|(with_reducible first|exact HB.o|apply af|apply aq|apply aN|refine aK ?_ nK.o)|exact HB.o)⟩⟩
        ·rw[if_neg c12]at H
         have MO:((Go.bits .and .u8 (rd l0 0) ((ax bp aL).f0))==((ax bp aL).f1))=false:=beq_eq_false_iff_ne.mpr c12;have MQ:((Go.bits .and .u8 (rd l0 0) ((ax bp aL).f0)) !=((ax bp aL).f1))=true:=bne_iff_ne.mpr c12;have H':=bu.mk H;clear H;have CL:0<=(0:Int):=(by omega);have CM:0<(l0.length:Int):=of_decide_eq_true (by first|(with_reducible assumption)|assumption);obtain⟨ud,Uc,ck⟩:=Kd.fQ Wa.o 0 CL CM;cases Uc;have Xn:(0<l0.length)=True:=eq_true (by omega)
         (try rw[show((0:Int)).toNat=0 from rfl]at ck)
         (try rw[Addr.add_zero']at ck)
         have mA:ud.block≠bz:=Nat.ne_of_lt (jv (by have:=aR _ _ ck;first|rwa[add_block]at this|exact this) sw.o);have mC:ud.block≠bz:=Nat.ne_of_lt (jv (by have:=aR _ _ ck;first|rwa[add_block]at this|exact this) sw.o);have mD:ud.block≠bz:=Nat.ne_of_lt (jv (by have:=aR _ _ ck;first|rwa[add_block]at this|exact this) sw.o);have mE:ud.block≠bz:=Nat.ne_of_lt (jv (by have:=aR _ _ ck;first|rwa[add_block]at this|exact this) sw.o);replace ck:=(HB.o.cell (aR w _ ck)).trans ck;replace ck:=(cell_far (p:=⟨bz,0,none⟩) (by first|(rw[add_block];exact mA)|(show(Addr.add _ _).block≠_;rw[add_block];exact mA)|exact mA) (.int .u8 ((ax bp aL).f0))).trans ck;replace ck:=(cell_far (p:=⟨bz,1,none⟩) (by first|(rw[add_block];exact mC)|(show(Addr.add _ _).block≠_;rw[add_block];exact mC)|exact mC) (.int .u8 ((ax bp aL).f1))).trans ck;replace ck:=(cell_far (p:=⟨bz,2,none⟩) (by first|(rw[add_block];exact mD)|(show(Addr.add _ _).block≠_;rw[add_block];exact mD)|exact mD) (.int .i64 ((ax bp aL).f2))).trans ck;replace ck:=(cell_far (p:=⟨bz,3,none⟩) (by first|(rw[add_block];exact mE)|(show(Addr.add _ _).block≠_;rw[add_block];exact mE)|exact mE) (.int .u32 ((ax bp aL).f3))).trans ck
         (try have QS:=fun(n_:Nat)=>(show((((((w9.drewN n_).setCell ⟨bz,0,none⟩ (.int .u8 ((ax bp aL).f0))).setCell ⟨bz,1,none⟩ (.int .u8 ((ax bp aL).f1))).setCell ⟨bz,2,none⟩ (.int .i64 ((ax bp aL).f2))).setCell ⟨bz,3,none⟩ (.int .u32 ((ax bp aL).f3)))).cell? _=some _ from ck))
         clear mA;clear mC;clear mD;clear mE;replace CL:=eq_true CL;replace CM:=eq_true CM;have Je:w9.cell? ⟨bz,0,none⟩=some (.int .u8 0):=(aa bn.o 0).trans rfl;have Jf:w9.cell? ⟨bz,1,none⟩=some (.int .u8 0):=(aa bn.o 1).trans rfl;have Jg:w9.cell? ⟨bz,2,none⟩=some (.int .i64 0):=(aa bn.o 2).trans rfl;have Jh:w9.cell? ⟨bz,3,none⟩=some (.int .u32 0):=(aa bn.o 3).trans rfl;have Ji:=ah bn.o 0;have Jj:=ah bn.o 1;have Jk:=ah bn.o 2;have Jl:=ah bn.o 3
         go_wp2
         repeat (go_quiet (fail);try go_wp2)
         go_meet
         case rel=>exact⟨_,(true),(by first|rfl|(simp;done)|(simp[*];done)),H',⟨by have:=Ke.o;first|omega|exact aU _⟩,⟨by(with_reducible repeat (first|apply Kd.aZ|apply Kd.bU|apply Kd.fu));exact Kd.bQ (Kd.dr (p:=⟨bz,3,none⟩) (Kd.dr (p:=⟨bz,2,none⟩) (Kd.dr (p:=⟨bz,1,none⟩) (Kd.dr (p:=⟨bz,0,none⟩) (Kd.bQ tZ.o (fun k_ hk=>(⟨hk,hk.2⟩:_/\k_≠bz))) (fun _ hk=>hk.2) (.int .u8 ((ax bp aL).f0))) (fun _ hk=>hk.2) (.int .u8 ((ax bp aL).f1))) (fun _ hk=>hk.2) (.int .i64 ((ax bp aL).f2))) (fun _ hk=>hk.2) (.int .u32 ((ax bp aL).f3))) (fun _ hk=>hk.1.2)⟩,⟨by(with_reducible repeat (first|refine ez ?_ _|refine dM ?_|refine bh ?_ _));refine nG (cs:=#[.int .u8 ((ax bp aL).f0),.int .u8 ((ax bp aL).f1),.int .i64 ((ax bp aL).f2),.int .u32 0]) ?_ 3 _ rfl;(with_reducible repeat (first|refine ez ?_ _|refine dM ?_|refine bh ?_ _));refine nG (cs:=#[.int .u8 ((ax bp aL).f0),.int .u8 ((ax bp aL).f1),.int .i64 0,.int .u32 0]) ?_ 2 _ rfl;(with_reducible repeat (first|refine ez ?_ _|refine dM ?_|refine bh ?_ _));refine nG (cs:=#[.int .u8 ((ax bp aL).f0),.int .u8 0,.int .i64 0,.int .u32 0]) ?_ 1 _ rfl;(with_reducible repeat (first|refine ez ?_ _|refine dM ?_|refine bh ?_ _));refine nG (cs:=#[.int .u8 0,.int .u8 0,.int .i64 0,.int .u32 0]) ?_ 0 _ rfl;(with_reducible repeat (first|refine ez ?_ _|refine dM ?_|refine bh ?_ _));exact bn.o⟩,⟨by repeat (first|(with_reducible first|exact HB.o|apply af|apply aq|apply aN|refine aK ?_ nK.o)|exact HB.o)⟩⟩
       ·rw[if_neg c11]at H
        exact absurd H (by simp)
      case rest=>
       clear HC8
       try clear c1
       try clear c2
       try clear p2
       try clear p3
       try clear q3
       try clear hx3
       try clear qi3
       try clear c5
       try clear Ua
       try clear c6
       try clear Xl
       try clear c7
       try clear Ub
       try clear c11
       try clear I5
       try clear S3
       try clear c12
       try clear MO
       try clear MQ
       try clear xI
       try clear xJ
       try clear xK
       try clear xL
       try clear I6
       try clear I7
       try clear I8
       try clear I9
       try clear Je
       try clear Jf
       try clear Jg
       try clear Jh
       try clear xM
       try clear xN
       try clear xO
       try clear xP
       try clear Ja
       try clear Jb
       try clear Jc
       try clear Jd
       try clear Ji
       try clear Jj
       try clear Jk
       try clear Jl
       try clear IY
       try clear IZ
       try clear I2
       try clear I3
       try clear ck
       try clear p2
       try clear MM
       try clear CL
       try clear MN
       try clear CM
       obtain⟨kq,I4,rfl,HA,ZJ,tZ,bn,HB⟩:=hcut;cases kq with
       |zero=>exact absurd HA.o (by simp[bH.j1])
       |succ Xo=>
        have H:=HA.o;clear HA;simp only[bH.j1]at H;by_cases c15:I4=true
        ·subst c15
         have H1:(bH.l0 Xo l0 bp (bp.length:Int) (wrap64 (aL+1)))=some r:=by rw[if_pos rfl]at H;exact H
         clear H;have H:=H1;clear H1;have H':=bu.mk H;clear H
         go_wp2
         repeat (go_quiet (fail);try go_wp2)
         go_roundg Xo
         case measure=>have:=Ke.o;have:=ZJ.o;omega
         case rel=>exact⟨(wrap64 (aL+1)),(by first|rfl|(simp;done)|(simp[*];done)),H',⟨by have:=Ke.o;have:=ZJ.o;omega⟩,⟨by(with_reducible repeat (first|apply Kd.aZ|apply Kd.bU|apply Kd.fu));exact Kd.bQ tZ.o (fun _ hk=>trivial)⟩,⟨by repeat (first|(with_reducible first|exact HB.o|apply af|apply aq|apply aN|refine aK ?_ nK.o)|exact HB.o)⟩⟩
        ·replace c15:=Bool.eq_false_iff.mpr c15
         subst c15;have H1:(if 0<(l0.length:Int)then(if 1<=(wrap64 (1+((ax bp aL).f2)))then(if(wrap64 (1+((ax bp aL).f2)))<=(l0.length:Int)then(bH.l1 Xo ((Go.bits .andNot .u8 (rd l0 0) ((ax bp aL).f0))%4294967296) ((l0.take ((wrap64 (1+((ax bp aL).f2))):Int).toNat).drop 1) (((l0.take ((wrap64 (1+((ax bp aL).f2))):Int).toNat).drop 1).length:Int) 0 ((ax bp aL).f0) ((ax bp aL).f1) ((ax bp aL).f2) ((ax bp aL).f3))else(none))else(none))else(none))=some r:=by rw[if_neg (show¬(false=true) by decide)]at H;exact H
         clear H;have H:=H1;clear H1;by_cases c16:0<(l0.length:Int)
         ·rw[if_pos c16]at H
          have Xp:decide (0<(l0.length:Int))=true:=iz c16;have Xq:decide (0<l0.length)=true:=iz (by omega);clear c16;by_cases c17:1<=(wrap64 (1+((ax bp aL).f2)))
          ·rw[if_pos c17]at H
           have Xr:=eq_true c17;have Xs:decide (1<=(wrap64 (1+((ax bp aL).f2))))=true:=iz c17;by_cases c18:(wrap64 (1+((ax bp aL).f2)))<=(l0.length:Int)
           ·rw[if_pos c18]at H
            have Xt:=eq_true c18;have Xu:decide ((wrap64 (1+((ax bp aL).f2)))<=(l0.length:Int))=true:=iz c18;have H':=bu.mk H;clear H;have QT:0<=(0:Int):=(by omega);have QU:0<(l0.length:Int):=of_decide_eq_true (by first|(with_reducible assumption)|assumption);obtain⟨Xv,abK,rP⟩:=Kd.fQ Wa.o 0 QT QU;cases abK;have aeA:(0<l0.length)=True:=eq_true (by omega)
            (try rw[show((0:Int)).toNat=0 from rfl]at rP)
            (try rw[Addr.add_zero']at rP)
            replace rP:=(HB.o.cell (aR w _ rP)).trans rP;replace QT:=eq_true QT;replace QU:=eq_true QU;have QV:wc.cell? ⟨bz,0,none⟩=some (.int .u8 ((ax bp aL).f0)):=(aa bn.o 0).trans rfl;have QW:wc.cell? ⟨bz,1,none⟩=some (.int .u8 ((ax bp aL).f1)):=(aa bn.o 1).trans rfl;have QX:wc.cell? ⟨bz,2,none⟩=some (.int .i64 ((ax bp aL).f2)):=(aa bn.o 2).trans rfl;have QY:wc.cell? ⟨bz,3,none⟩=some (.int .u32 ((ax bp aL).f3)):=(aa bn.o 3).trans rfl;have QZ:=ah bn.o 0;have Q8:=ah bn.o 1;have Ra:=ah bn.o 2;have Rb:=ah bn.o 3;obtain⟨agf,S4,_,S5,_⟩:=info_parts SV;obtain⟨Wc,abL,Xw,Xx⟩:=Cs (P:=prog) (Value.int .u8) 0 51 5 .i64 .i64 underlying51 S4 S5 (some Xv) c0 l0 1 (wrap64 (1+((ax bp aL).f2))) (by omega) (by first|omega|exact of_decide_eq_true (by first|(with_reducible assumption)|assumption)) (of_decide_eq_true (by first|(with_reducible assumption)|assumption)) Xi.o;have S6:=bu.mk (Kd.kQ (h1:=fun _=>rfl) (Xw _ (Kd.oN Wa.o)));have MR:(List.drop 1 (List.take (wrap64 (1+(ax bp aL).f2)).toNat l0)).length=(wrap64 (1+(ax bp aL).f2)).toNat-1:=by have h_:(wrap64 (1+(ax bp aL).f2))<=(l0.length:Int):=of_decide_eq_true (by assumption);simp only[List.length_drop,List.length_take];omega
            have aeB:=bu.mk Xx;clear Xw Xx S4 S5
            go_wp2
            repeat (go_quiet (fail);try go_wp2)
            go_loopg [5,43] Xo (fun kq v5 v43 w'=> ∃(oZ:Int) (ji:Int),v5= .int .u32 oZ/\v43= .int .i64 ji/\bu (bH.l1 kq oZ ((l0.take ((wrap64 (1+((ax bp aL).f2))):Int).toNat).drop 1) (((l0.take ((wrap64 (1+((ax bp aL).f2))):Int).toNat).drop 1).length:Int) ji ((ax bp aL).f0) ((ax bp aL).f1) ((ax bp aL).f2) ((ax bp aL).f3)=some r)/\bu (kq<=Xo)/\bu (w'.heap[bz]? =some (.cells #[.int .u8 ((ax bp aL).f0),.int .u8 ((ax bp aL).f1),.int .i64 ((ax bp aL).f2),.int .u32 ((ax bp aL).f3)] 231 (0,0)))/\bu (Below w.heap.size w w'))
            case atStart=>exact⟨((Go.bits .andNot .u8 (rd l0 0) ((ax bp aL).f0))%4294967296),(0),(by first|rfl|(simp;done)|(simp[*];done)),(by first|rfl|(simp;done)|(simp[*];done)),H',⟨aU _⟩,⟨by(with_reducible repeat (first|refine ez ?_ _|refine dM ?_|refine bh ?_ _));exact bn.o⟩,⟨by repeat (first|(with_reducible first|exact HB.o|apply af|apply aq|apply aN|refine aK ?_ nK.o)|exact HB.o)⟩⟩
            case round=>
             clear H'
             try clear c1
             try clear c2
             try clear p2
             try clear p3
             try clear q3
             try clear hx3
             try clear qi3
             try clear c5
             try clear Ua
             try clear c6
             try clear Xl
             try clear p6
             try clear c7
             try clear Ub
             try clear c11
             try clear I5
             try clear S3
             try clear c12
             try clear MO
             try clear MQ
             try clear c15
             try clear c16
             try clear Xp
             try clear Xq
             try clear c17
             try clear Xr
             try clear Xs
             try clear c18
             try clear Xt
             try clear Xu
             try clear xI
             try clear xJ
             try clear xK
             try clear xL
             try clear I6
             try clear I7
             try clear I8
             try clear I9
             try clear Je
             try clear Jf
             try clear Jg
             try clear Jh
             try clear QV
             try clear QW
             try clear QX
             try clear QY
             try clear xM
             try clear xN
             try clear xO
             try clear xP
             try clear Ja
             try clear Jb
             try clear Jc
             try clear Jd
             try clear Ji
             try clear Jj
             try clear Jk
             try clear Jl
             try clear QZ
             try clear Q8
             try clear Ra
             try clear Rb
             try clear IY
             try clear IZ
             try clear I2
             try clear I3
             try clear ck
             try clear rP
             try clear p2
             try clear p3
             try clear MM
             try clear CL
             try clear QT
             try clear q3
             try clear MN
             try clear CM
             try clear QU
             obtain⟨oZ,ji,rfl,rfl,HA,HK3,bn,HB⟩:=hrel;cases gk with
             |zero=>exact absurd HA.o (by simp[bH.l1])
             |succ k3=>
              have H:=HA.o;clear HA;simp only[bH.l1]at H;by_cases S7:ji<(((l0.take ((wrap64 (1+((ax bp aL).f2))):Int).toNat).drop 1).length:Int)
              ·rw[if_pos S7]at H
               have MT:decide (ji<(((l0.take ((wrap64 (1+((ax bp aL).f2))):Int).toNat).drop 1).length:Int))=true:=iz S7;have Ud:=MT;rw[MR]at Ud;clear S7;by_cases Wd:0<=ji
               ·rw[if_pos Wd]at H
                have aeD:decide (0<=ji)=true:=iz Wd;clear Wd;by_cases ZK:ji<(((l0.take ((wrap64 (1+((ax bp aL).f2))):Int).toNat).drop 1).length:Int)
                ·rw[if_pos ZK]at H
                 have Xy:decide (ji<(((l0.take ((wrap64 (1+((ax bp aL).f2))):Int).toNat).drop 1).length:Int))=true:=iz ZK;have Ue:=Xy;rw[MR]at Ue;clear ZK;by_cases Uf:(Go.bits .and .u8 (rd ((l0.take ((wrap64 (1+((ax bp aL).f2))):Int).toNat).drop 1) ji) 192)=128
                 ·rw[if_pos Uf]at H
                  have MU:((Go.bits .and .u8 (rd ((l0.take ((wrap64 (1+((ax bp aL).f2))):Int).toNat).drop 1) ji) 192)==128)=true:=beq_iff_eq.mpr Uf;have MV:((Go.bits .and .u8 (rd ((l0.take ((wrap64 (1+((ax bp aL).f2))):Int).toNat).drop 1) ji) 192) !=128)=false:=bne_eq_false_iff_eq.mpr Uf;have MW:=MU;have MX:=MV;simp only[List.drop_one]at MW MX;clear Uf;have H':=bu.mk H;clear H;have GU:0<=(ji:Int):=of_decide_eq_true (by first|(with_reducible assumption)|assumption);have GV:ji<(((l0.take ((wrap64 (1+((ax bp aL).f2))):Int).toNat).drop 1).length:Int):=of_decide_eq_true (by first|(with_reducible assumption)|assumption);obtain⟨Xz,Ug,o8⟩:=Kd.fQ S6.o ji GU GV;cases Ug;replace o8:=(HB.o.cell (aR w _ o8)).trans o8;replace GU:=eq_true GU;replace GV:=eq_true GV;have XA:=eq_true (of_decide_eq_true Ue)
                  go_wp2
                  repeat (go_quiet (fail);try go_wp2)
                  go_roundg k3
                  case measure=>have:=Ke.o;have:=ZJ.o;have:=HK3.o;omega
                  case rel=>exact⟨(Go.bits .or .u32 ((oZ*64)%4294967296) ((Go.bits .and .u8 (rd ((l0.take ((wrap64 (1+((ax bp aL).f2))):Int).toNat).drop 1) ji) 63)%4294967296)),(wrap64 (ji+1)),(by first|rfl|(simp;done)|(simp[*];done)),(by first|rfl|(simp;done)|(simp[*];done)),H',⟨by have:=Ke.o;have:=ZJ.o;have:=HK3.o;omega⟩,⟨by(with_reducible repeat (first|refine ez ?_ _|refine dM ?_|refine bh ?_ _));exact bn.o⟩,⟨by repeat (first|(with_reducible first|exact HB.o|apply af|apply aq|apply aN|refine aK ?_ nK.o)|exact HB.o)⟩⟩
                 ·rw[if_neg Uf]at H
                  have MU:((Go.bits .and .u8 (rd ((l0.take ((wrap64 (1+((ax bp aL).f2))):Int).toNat).drop 1) ji) 192)==128)=false:=beq_eq_false_iff_ne.mpr Uf;have MV:((Go.bits .and .u8 (rd ((l0.take ((wrap64 (1+((ax bp aL).f2))):Int).toNat).drop 1) ji) 192) !=128)=true:=bne_iff_ne.mpr Uf;have MW:=MU;have MX:=MV;simp only[List.drop_one]at MW MX;obtain rfl:=Option.some.inj H;have GU:0<=(ji:Int):=of_decide_eq_true (by first|(with_reducible assumption)|assumption);have GV:ji<(((l0.take ((wrap64 (1+((ax bp aL).f2))):Int).toNat).drop 1).length:Int):=of_decide_eq_true (by first|(with_reducible assumption)|assumption);obtain⟨Xz,Ug,o8⟩:=Kd.fQ S6.o ji GU GV;cases Ug;replace o8:=(HB.o.cell (aR w _ o8)).trans o8;replace GU:=eq_true GU;replace GV:=eq_true GV;have XA:=eq_true (of_decide_eq_true Ue)
                  go_wp2
                  repeat (go_quiet (fail);try go_wp2)
                  go_ret;exact⟨by first|rfl|(simp[cV,cW]<;>rfl)|(simp[*,cV,cW]<;>rfl),by repeat (first|(with_reducible first|exact HB.o|apply af|apply aq|apply aN|refine aK ?_ nK.o)|exact HB.o)⟩
                ·rw[if_neg ZK]at H
                 exact absurd H (by simp)
               ·rw[if_neg Wd]at H
                exact absurd H (by simp)
              ·rw[if_neg S7]at H
               have MT:decide (ji<(((l0.take ((wrap64 (1+((ax bp aL).f2))):Int).toNat).drop 1).length:Int))=false:=jP S7;have Ud:=MT;rw[MR]at Ud;clear S7;by_cases We:oZ<((ax bp aL).f3)
               ·rw[if_pos We]at H
                have XB:decide (oZ<((ax bp aL).f3))=true:=iz We;clear We;obtain rfl:=Option.some.inj H;have ZL:wr.cell? ⟨bz,0,none⟩=some (.int .u8 ((ax bp aL).f0)):=(aa bn.o 0).trans rfl;have ZM:wr.cell? ⟨bz,1,none⟩=some (.int .u8 ((ax bp aL).f1)):=(aa bn.o 1).trans rfl;have ZN:wr.cell? ⟨bz,2,none⟩=some (.int .i64 ((ax bp aL).f2)):=(aa bn.o 2).trans rfl;have ZO:wr.cell? ⟨bz,3,none⟩=some (.int .u32 ((ax bp aL).f3)):=(aa bn.o 3).trans rfl;have ZP:=ah bn.o 0;have ZQ:=ah bn.o 1;have ZR:=ah bn.o 2;have ZU:=ah bn.o 3
                go_wp2
                repeat (go_quiet (fail);try go_wp2)
                go_ret;exact⟨by first|rfl|(simp[cV,cW]<;>rfl)|(simp[*,cV,cW]<;>rfl),by repeat (first|(with_reducible first|exact HB.o|apply af|apply aq|apply aN|refine aK ?_ nK.o)|exact HB.o)⟩
               ·rw[if_neg We]at H
                have XB:decide (oZ<((ax bp aL).f3))=false:=jP We;clear We;by_cases Wf:oZ≥55296
                ·rw[if_pos Wf]at H
                 have XC:decide (55296<=oZ)=true:=iz Wf;clear Wf;by_cases Wh:oZ<=57343
                 ·rw[if_pos Wh]at H
                  have XD:decide (oZ<=57343)=true:=iz Wh;clear Wh;obtain rfl:=Option.some.inj H;have ZV:wr.cell? ⟨bz,0,none⟩=some (.int .u8 ((ax bp aL).f0)):=(aa bn.o 0).trans rfl;have ZW:wr.cell? ⟨bz,1,none⟩=some (.int .u8 ((ax bp aL).f1)):=(aa bn.o 1).trans rfl;have ZX:wr.cell? ⟨bz,2,none⟩=some (.int .i64 ((ax bp aL).f2)):=(aa bn.o 2).trans rfl;have ZZ:wr.cell? ⟨bz,3,none⟩=some (.int .u32 ((ax bp aL).f3)):=(aa bn.o 3).trans rfl;have Z0:=ah bn.o 0;have aaa:=ah bn.o 1;have aab:=ah bn.o 2;have aac:=ah bn.o 3
                  go_wp2
                  repeat (go_quiet (fail);try go_wp2)
                  go_ret;exact⟨by first|rfl|(simp[cV,cW]<;>rfl)|(simp[*,cV,cW]<;>rfl),by repeat (first|(with_reducible first|exact HB.o|apply af|apply aq|apply aN|refine aK ?_ nK.o)|exact HB.o)⟩
                 ·rw[if_neg Wh]at H
                  have XD:decide (oZ<=57343)=false:=jP Wh;clear Wh;by_cases Wi:oZ>1114111
                  ·rw[if_pos Wi]at H
                   have XE:decide (1114111<oZ)=true:=iz Wi;clear Wi;obtain rfl:=Option.some.inj H;have aad:wr.cell? ⟨bz,0,none⟩=some (.int .u8 ((ax bp aL).f0)):=(aa bn.o 0).trans rfl;have aae:wr.cell? ⟨bz,1,none⟩=some (.int .u8 ((ax bp aL).f1)):=(aa bn.o 1).trans rfl;have aaf:wr.cell? ⟨bz,2,none⟩=some (.int .i64 ((ax bp aL).f2)):=(aa bn.o 2).trans rfl;have aag:wr.cell? ⟨bz,3,none⟩=some (.int .u32 ((ax bp aL).f3)):=(aa bn.o 3).trans rfl;have aah:=ah bn.o 0;have aai:=ah bn.o 1;have aaj:=ah bn.o 2;have aak:=ah bn.o 3
                   go_wp2
                   repeat (go_quiet (fail);try go_wp2)
                   go_ret;exact⟨by first|rfl|(simp[cV,cW]<;>rfl)|(simp[*,cV,cW]<;>rfl),by repeat (first|(with_reducible first|exact HB.o|apply af|apply aq|apply aN|refine aK ?_ nK.o)|exact HB.o)⟩
                  ·rw[if_neg Wi]at H
                   have XE:decide (1114111<oZ)=false:=jP Wi;clear Wi;obtain rfl:=Option.some.inj H;have aal:wr.cell? ⟨bz,0,none⟩=some (.int .u8 ((ax bp aL).f0)):=(aa bn.o 0).trans rfl;have aam:wr.cell? ⟨bz,1,none⟩=some (.int .u8 ((ax bp aL).f1)):=(aa bn.o 1).trans rfl;have aan:wr.cell? ⟨bz,2,none⟩=some (.int .i64 ((ax bp aL).f2)):=(aa bn.o 2).trans rfl;have aao:wr.cell? ⟨bz,3,none⟩=some (.int .u32 ((ax bp aL).f3)):=(aa bn.o 3).trans rfl;have aap:=ah bn.o 0;have aaq:=ah bn.o 1;have aar:=ah bn.o 2;have aas:=ah bn.o 3
                   go_wp2
                   repeat (go_quiet (fail);try go_wp2)
                   go_ret;exact⟨by first|rfl|(simp[cV,cW]<;>rfl)|(simp[*,cV,cW]<;>rfl),by repeat (first|(with_reducible first|exact HB.o|apply af|apply aq|apply aN|refine aK ?_ nK.o)|exact HB.o)⟩
                ·rw[if_neg Wf]at H
                 have XC:decide (55296<=oZ)=false:=jP Wf;clear Wf;by_cases Wj:oZ>1114111
                 ·rw[if_pos Wj]at H
                  have XF:decide (1114111<oZ)=true:=iz Wj;clear Wj;obtain rfl:=Option.some.inj H;have aat:wr.cell? ⟨bz,0,none⟩=some (.int .u8 ((ax bp aL).f0)):=(aa bn.o 0).trans rfl;have aau:wr.cell? ⟨bz,1,none⟩=some (.int .u8 ((ax bp aL).f1)):=(aa bn.o 1).trans rfl;have aav:wr.cell? ⟨bz,2,none⟩=some (.int .i64 ((ax bp aL).f2)):=(aa bn.o 2).trans rfl;have aaw:wr.cell? ⟨bz,3,none⟩=some (.int .u32 ((ax bp aL).f3)):=(aa bn.o 3).trans rfl;have aax:=ah bn.o 0;have aay:=ah bn.o 1;have aaz:=ah bn.o 2;have aaA:=ah bn.o 3
                  go_wp2
                  repeat (go_quiet (fail);try go_wp2)
                  go_ret;exact⟨by first|rfl|(simp[cV,cW]<;>rfl)|(simp[*,cV,cW]<;>rfl),by repeat (first|(with_reducible first|exact HB.o|apply af|apply aq|apply aN|refine aK ?_ nK.o)|exact HB.o)⟩
                 ·rw[if_neg Wj]at H
                  have XF:decide (1114111<oZ)=false:=jP Wj;clear Wj;obtain rfl:=Option.some.inj H;have aaB:wr.cell? ⟨bz,0,none⟩=some (.int .u8 ((ax bp aL).f0)):=(aa bn.o 0).trans rfl;have aaC:wr.cell? ⟨bz,1,none⟩=some (.int .u8 ((ax bp aL).f1)):=(aa bn.o 1).trans rfl;have aaD:wr.cell? ⟨bz,2,none⟩=some (.int .i64 ((ax bp aL).f2)):=(aa bn.o 2).trans rfl;have aaE:wr.cell? ⟨bz,3,none⟩=some (.int .u32 ((ax bp aL).f3)):=(aa bn.o 3).trans rfl;have aaF:=ah bn.o 0;have aaG:=ah bn.o 1;have aaH:=ah bn.o 2;have aaI:=ah bn.o 3
                  go_wp2
                  repeat (go_quiet (fail);try go_wp2)
                  go_ret;exact⟨by first|rfl|(simp[cV,cW]<;>rfl)|(simp[*,cV,cW]<;>rfl),by repeat (first|(with_reducible first|exact HB.o|apply af|apply aq|apply aN|refine aK ?_ nK.o)|exact HB.o)⟩
           ·rw[if_neg c18]at H
            exact absurd H (by simp)
          ·rw[if_neg c17]at H
           exact absurd H (by simp)
         ·rw[if_neg c16]at H
          exact absurd H (by simp)
     ·rw[if_neg c7]at H
      exact absurd H (by simp)
    ·rw[if_neg c6]at H
     exact absurd H (by simp)
   ·rw[if_neg c5]at H
    have Ua:decide (aL<(bp.length:Int))=false:=jP c5;clear c5;obtain rfl:=Option.some.inj H
    go_wp2
    repeat (go_quiet (fail);try go_wp2)
    go_ret;exact⟨by first|rfl|(simp[cV,cW]<;>rfl)|(simp[*,cV,cW]<;>rfl),by repeat (first|(with_reducible first|exact HB.o|apply af|apply aq|apply aN)|exact HB.o)⟩
def dD.l0:Nat->List Int->Int->Option (Int)
 |0,_,_=>none
 |k+1,x0,x3=>if(x0.length:Int)>0 then((bH.f k x0).bind fun j9=>(if j9=0 then(some (-1))else(if 0<=j9 then(if j9<=(x0.length:Int)then(dD.l0 k (x0.drop (j9:Int).toNat) (wrap64 (x3+1)))else(none))else(none))))else(some x3)
def dD.f(k:Nat)(l0:List Int):Option (Int):=dD.l0 k l0 0
theorem dD.calls(k:Nat)(P0_:Nat->Prop)(A0:Option Addr)(c0:Nat)(l0:List Int)(r:Int)(w:World)(hs0:Kd.V (Kd.int .u8) 5 w w.heap.size (fun k_=>P0_ k_) (.slice A0 l0.length c0) l0)(h:dD.f k l0=some r):
 Calls prog 173 #[.slice A0 l0.length c0] w fun e w'=>e= .returned (.int .i64 r)/\Below w.heap.size w w':=by
 have HO0:=bu.mk (show Kd.V (Kd.int .u8) 5 w w.heap.size (fun k_=>(P0_ k_\/w.heap.size<=k_)) (.slice A0 l0.length c0) l0 from Kd.T5 hs0 (fun k_ hk=> .inl hk));have HB:=bu.mk (ay w.heap.size w);have H:(dD.l0 k l0 0)=some r:=h;clear h;have H':=bu.mk H;clear H
 go_enter func173,ntmps173
 go_wp2
 go_loopg [0,3] k (fun kq v0 v3 w'=> ∃(mF:List Int) (Kf:Int),v3= .int .i64 Kf/\bu (dD.l0 kq mF Kf=some r)/\bu (kq<=k)/\bu (Kd.V (Kd.int .u8) 5 w' w.heap.size (fun k_=>(P0_ k_\/w.heap.size<=k_)) v0 mF)/\bu (Below w.heap.size w w'))
 case atStart=>exact⟨(l0),(0),(by first|rfl|(simp;done)|(simp[*];done)),H',⟨aU _⟩,⟨by(with_reducible repeat (first|apply Kd.CN|apply Kd.CO|apply Kd.GW));exact HO0.o⟩,⟨by repeat (first|(with_reducible first|exact HB.o|apply af|apply aq|apply aN)|exact HB.o)⟩⟩
 case round=>
  clear H'
  try clear c1
  obtain⟨mF,Kf,rfl,HA,Ke,sP,HB⟩:=hrel;cases gk with
  |zero=>exact absurd HA.o (by simp[dD.l0])
  |succ k1=>
   have H:=HA.o;clear HA;simp only[dD.l0]at H;by_cases c2:(mF.length:Int)>0
   ·rw[if_pos c2]at H
    have abN:decide (0<(mF.length:Int))=true:=iz c2;have abO:decide (0<mF.length)=true:=iz (by omega);clear c2;replace H:=Option.bind_eq_some_iff.mp H;obtain⟨j9,A30,H⟩:=H;replace H:(if j9=0 then(some (-1))else(if 0<=j9 then(if j9<=(mF.length:Int)then(dD.l0 k1 (mF.drop (j9:Int).toNat) (wrap64 (Kf+1)))else(none))else(none)))=some r:=H;have A3:=bu.mk A30;clear A30;by_cases c4:j9=0
    ·rw[if_pos c4]at H
     have abP:(j9==0)=true:=beq_iff_eq.mpr c4;have abQ:(j9 !=0)=false:=bne_eq_false_iff_eq.mpr c4;clear c4;obtain rfl:=Option.some.inj H;obtain⟨Ao5,co5,eo5⟩:=Kd.CB sP.o;subst eo5
     go_wp2_with (first|((with_reducible refine qC (f:=212) rfl ?_);refine GF (some 9) rfl rfl func212 (by kernel_rfl) rfl #[.slice Ao5 mF.length co5] rfl (by(try simp only[List.map_toArray,List.map_cons,List.map_nil]);first|done|rfl|(simp only[List.length_drop,List.length_take];rfl)) ?_;(with_reducible refine(bH.calls k1 _ _ mF j9 _ ?Ew ?MZ A3.o).mono ?_);(case Ew=>repeat (first|exact(Kd.qD sP.o).2.2|(with_reducible refine Kd.aS ?_ _)|(with_reducible refine Kd.jc ?_ _)|(with_reducible refine Kd.eL ?_)));(case MZ=>exact(Kd.qD sP.o).2.1);rintro e w6⟨rfl,hb⟩;refine⟨_,rfl,?_⟩;have tY:=bu.mk (Kd.IQ (by(with_reducible repeat (first|apply Kd.CN|apply Kd.CO|apply Kd.GW));exact sP.o) hb);have wI:=bu.mk (az (by repeat (first|(with_reducible first|exact HB.o|apply af|apply aq|apply aN)|exact HB.o)) hb);clear sP;clear HB;have sP:=tY;have HB:=wI;clear tY wI;(try clear hb);(try clear hb2);(try clear hk);(try clear hi)))
     go_ret;exact⟨by first|rfl|(simp[cV,cW]<;>rfl)|(simp[*,cV,cW]<;>rfl),by repeat (first|(with_reducible first|exact HB.o|apply af|apply aq|apply aN)|exact HB.o)⟩
    ·rw[if_neg c4]at H
     have abP:(j9==0)=false:=beq_eq_false_iff_ne.mpr c4;have abQ:(j9 !=0)=true:=bne_iff_ne.mpr c4;by_cases c7:0<=j9
     ·rw[if_pos c7]at H
      have Ub:=eq_true c7;have agl:decide (0<=j9)=true:=iz c7;clear c7;by_cases c8:j9<=(mF.length:Int)
      ·rw[if_pos c8]at H
       have agm:=eq_true c8;have agn:decide (j9<=(mF.length:Int))=true:=iz c8;clear c8;obtain⟨CP,Ex⟩: ∃y_:List Int,y_=(mF.drop (j9:Int).toNat):=⟨_,rfl⟩;replace H:(dD.l0 k1 CP (wrap64 (Kf+1)))=some r:=by first|(rw[Ex];with_reducible exact H)|(have T9:=(Option.bind_some _ _).symm.trans H;rw[Ex];with_reducible exact T9)|(have T9:=(Option.bind_some _ _).symm.trans H;with_reducible exact T9)|with_reducible exact H|(rw[Ex];exact H)|exact H
       have S8:=bu.mk Ex;clear Ex;have H':=bu.mk H;clear H;obtain⟨XG,Wk,eo9⟩:=Kd.CB sP.o;subst eo9
       go_wp2_with (first|((with_reducible refine qC (f:=212) rfl ?_);refine GF (some 9) rfl rfl func212 (by kernel_rfl) rfl #[.slice XG mF.length Wk] rfl (by(try simp only[List.map_toArray,List.map_cons,List.map_nil]);first|done|rfl|(simp only[List.length_drop,List.length_take];rfl)) ?_;(with_reducible refine(bH.calls k1 _ _ mF j9 _ ?Ew ?MZ A3.o).mono ?_);(case Ew=>repeat (first|exact(Kd.qD sP.o).2.2|(with_reducible refine Kd.aS ?_ _)|(with_reducible refine Kd.jc ?_ _)|(with_reducible refine Kd.eL ?_)));(case MZ=>exact(Kd.qD sP.o).2.1);rintro e w10⟨rfl,hb⟩;refine⟨_,rfl,?_⟩;have tY:=bu.mk (Kd.IQ (by(with_reducible repeat (first|apply Kd.CN|apply Kd.CO|apply Kd.GW));exact sP.o) hb);have wI:=bu.mk (az (by repeat (first|(with_reducible first|exact HB.o|apply af|apply aq|apply aN)|exact HB.o)) hb);clear sP;clear HB;have sP:=tY;have HB:=wI;clear tY wI;(try clear hb);(try clear hb2);(try clear hk);(try clear hi);have q11:(j9:Int)<=((mF.length:Int):Int):=of_decide_eq_true (by first|(with_reducible assumption)|assumption);obtain⟨agp,S9,_,Ta,_⟩:=info_parts SV;have xQ:mF.length<=Wk:=(Kd.qD sP.o).2.1;have XH:Kd.F (Kd.int .u8) _ _ XG mF.length mF:=(Kd.QA (base:=w.heap.size) sP.o).2.2;have abR:(0:Int)<=(j9:Int):=of_decide_eq_true (by first|(with_reducible assumption)|assumption);have Uh:=Ei (P:=prog) 51 5 .i64 underlying51 S9 1 Ta XG mF.length Wk j9 abR q11;have M0:=Kd.SR (m:=(j9:Int).toNat) (c:=Wk) XH (by omega) xQ;obtain⟨A11,Rc⟩:=ex ((if Wk=(j9:Int).toNat then XG else(XG:Option Addr).map (·.add ((j9:Int).toNat*1))));obtain⟨c11,Re⟩:=ex (Wk-(j9:Int).toNat);have Na:CP.length=mF.length-(j9:Int).toNat:=(by rw[S8.o,List.length_drop]<;>omega);rw[show(mF).drop (j9:Int).toNat=CP from S8.o.symm]at M0;replace M0:Kd.F (Kd.int .u8) _ _ A11 CP.length CP:=(by rw[Rc];exact M0);rw[<-Na,<-Rc,<-Re]at Uh;have XI:=bu.mk (show Kd.V (Kd.int .u8) 5 _ w.heap.size _ (.slice A11 CP.length c11) CP from Kd.Xb (by rw[Na,Re];exact Nat.sub_le_sub_right xQ _) M0);have aeG:=bu.mk (show CP.length<=c11 from by rw[Na,Re];exact Nat.sub_le_sub_right xQ _);clear M0 XH xQ S9 Ta Re;have agq:=bu.mk Na;have agr:=bu.mk Rc;clear Na Rc;replace q11:=eq_true q11))
       go_roundg k1
       case measure=>have:=Ke.o;omega
       case rel=>exact⟨(CP),(wrap64 (Kf+1)),(by first|rfl|(simp;done)|(simp[*];done)),H',⟨by have:=Ke.o;omega⟩,⟨by(with_reducible repeat (first|apply Kd.CN|apply Kd.CO|apply Kd.GW));exact XI.o⟩,⟨by repeat (first|(with_reducible first|exact HB.o|apply af|apply aq|apply aN)|exact HB.o)⟩⟩
      ·rw[if_neg c8]at H
       exact absurd H (by simp)
     ·rw[if_neg c7]at H
      exact absurd H (by simp)
   ·rw[if_neg c2]at H
    have abN:decide (0<(mF.length:Int))=false:=jP c2;have abO:decide (0<mF.length)=false:=jP (by omega);clear c2;obtain rfl:=Option.some.inj H;obtain⟨ags,agt,abS⟩:=Kd.CB sP.o;subst abS
    go_wp2
    go_ret;exact⟨by first|rfl|(simp[cV,cW]<;>rfl)|(simp[*,cV,cW]<;>rfl),by repeat (first|(with_reducible first|exact HB.o|apply af|apply aq|apply aN)|exact HB.o)⟩
def jS.f(k:Nat)(l0:List Int):Option (Bool):=(dD.f k l0).bind fun Kg=>(some (decide (Kg≥0)))
theorem jS.calls(k:Nat)(A0:Option Addr)(c0:Nat)(l0:List Int)(r:Bool)(w:World)(Xh:Kd.C (Kd.int .u8) w A0 l0.length l0)(hc0:l0.length<=c0)(h:jS.f k l0=some r):
 Calls prog 121 #[.slice A0 l0.length c0] w fun e w'=>e= .returned (.bool r)/\Below w.heap.size w w':=by
 have Wa:=bu.mk Xh;have Xi:=bu.mk hc0;clear Xh hc0;have HB:=bu.mk (ay w.heap.size w);have H:((dD.f k l0).bind fun Kg=>(some (decide (Kg≥0))))=some r:=h;clear h;replace H:=Option.bind_eq_some_iff.mp H;obtain⟨Kg,Wc,H⟩:=H;replace H:(some (decide (Kg≥0)))=some r:=H;have A2:=bu.mk Wc;clear Wc;obtain rfl:=Option.some.inj H
 go_enter func121,ntmps121
 go_wp2_with (first|((with_reducible refine qC (f:=173) rfl ?_);refine GF (some 4) rfl rfl func173 (by kernel_rfl) rfl #[.slice A0 l0.length c0] rfl (by(try simp only[List.map_toArray,List.map_cons,List.map_nil]);first|done|rfl|(simp only[List.length_drop,List.length_take];rfl)) ?_;(with_reducible refine(dD.calls k (fun k_=>k_<w.heap.size) _ _ l0 Kg _ ?Ew A2.o).mono ?_);(case Ew=>exact Kd.Xb Xi.o (Kd.bS (Kd.C_F (Kd.eM .u8) Wa.o) (by repeat (first|(with_reducible first|exact HB.o|apply af|apply aq|apply aN)|exact HB.o))));rintro e w3⟨rfl,hb⟩;refine⟨_,rfl,?_⟩;have tY:=bu.mk (az (by repeat (first|(with_reducible first|exact HB.o|apply af|apply aq|apply aN)|exact HB.o)) hb);clear HB;have HB:=tY;clear tY;(try clear hb);(try clear hb2);(try clear hk);(try clear hi)))
 go_ret;exact⟨by first|rfl|(simp[cV,cW]<;>rfl)|(simp[*,cV,cW]<;>rfl),by repeat (first|(with_reducible first|exact HB.o|apply af|apply aq|apply aN)|exact HB.o)⟩
end Go.Proofs.YthehihjcpiadgaaGreat
section
namespace Go.Proofs.YthehihjcpiadgaaGreat
open Go.RowKit Go.Proofs.Wz.PrintWords
namespace Tx
theorem xR{x:Int}(h0: -9223372036854775808<=x)(h1:x<=9223372036854775807):wrap64 x=x:=by unfold wrap64;omega
theorem l1(m:Nat): ∀(x5:Int) (l:List Int) (j:Nat) (k:Nat) (a b c d:Int),j<=l.length->l.length-j<=m->l.length<1000->0<=c->c<1000-> ∃r,bH.l1 (k+m+1) x5 l (l.length:Int) (j:Int) a b c d=some r/\(r=0\/r=1+c):=by
 induction m with
 |zero=>
  intro x5 l j k a b c d h1 h2 h3 h4 h5;unfold bH.l1;rw[if_neg (by omega),xR (by omega) (by omega)]
  (repeat' split)<;>exact⟨_,rfl,by omega⟩
 |succ m ih=>
  intro x5 l j k a b c d h1 h2 h3 h4 h5;rw[show k+(m+1)+1=(k+m+1)+1 from rfl];unfold bH.l1;by_cases hj:j<l.length
  ·rw[if_pos (by omega),if_pos (by omega),if_pos (by omega),xR (by omega) (by omega)]
   split
   ·exact ih _ l (j+1) k a b c d (by omega) (by omega) h3 h4 h5
   ·exact⟨_,rfl,.inl rfl⟩
  ·rw[if_neg (by omega),xR (by omega) (by omega)]
   (repeat' split)<;>exact⟨_,rfl,by omega⟩
theorem j1(k:Nat)(x0:List Int)(x8:List gR)(x9 eo:Int)(f:Bool)(a b c d:Int)(h0:0<=c)(h3:c<=3)(hf:f=false->c<x0.length)(hx:x0.length<1000)
 (H: ∃r,bH.l0 (k+4) x0 x8 x9 (wrap64 (eo+1))=some r/\0<=r/\r<=x0.length): ∃r,bH.j1 (k+5) x0 x8 x9 eo f a b c d=some r/\0<=r/\r<=x0.length:=by
 unfold bH.j1;cases f with
 |true=>exact H
 |false=>
  have hc:=hf rfl;rw[if_neg (by simp),if_pos (by omega),xR (by omega) (by omega),if_pos (by omega),if_pos (by omega)];have hlen:(List.drop 1 (List.take (1+c).toNat x0)).length=c.toNat:=by simp only[List.length_drop,List.length_take];omega
  obtain⟨r,hr,hv⟩:=l1 3 ((Go.bits .andNot .u8 (rd x0 0) a)%4294967296) (List.drop 1 (List.take (1+c).toNat x0)) 0 k a b c d (by omega) (by omega) (by omega) h0 (by omega);exact⟨r,hr,by omega,by omega⟩
def K:List gR:= [⟨128,0,0,0⟩,⟨224,192,1,128⟩,⟨240,224,2,2048⟩,⟨248,240,3,65536⟩]
theorem l0(x0:List Int)(hb:0<x0.length)(hx:x0.length<1000)(m:Nat): ∀(i:Nat) (k:Nat),i+m=4-> ∃r,bH.l0 (k+2*m+4) x0 K 4 (i:Int)=some r/\0<=r/\r<=x0.length:=by
 induction m with
 |zero=>
  intro i k h;unfold bH.l0;rw[if_neg (by omega)];exact⟨_,rfl,by omega,by omega⟩
 |succ m ih=>
  intro i k h;have hK:(K.length:Int)=4:=rfl
  have hk:0<=(ax K (i:Int)).f2/\(ax K (i:Int)).f2<=3:=by
   have:i=0\/i=1\/i=2\/i=3:=by omega
   rcases this with rfl|rfl|rfl|rfl<;>decide
  have hn:=ih (i+1) k (by omega);rw[show k+2*(m+1)+4=(k+2*m+5)+1 from by omega];unfold bH.l0;rw[if_pos (by omega),if_pos (by omega),if_pos (by omega),if_pos (by omega)];have hs:wrap64 ((i:Int)+1)=((i+1:Nat):Int):=by rw[xR (by omega) (by omega)];rfl
  split
  ·refine j1 (k+2*m) x0 K 4 i _ _ _ _ _ hk.1 hk.2 (fun hf=>by have:=of_decide_eq_false hf;omega) hx ?_
   rw[hs];exact hn
  ·refine j1 (k+2*m) x0 K 4 i _ _ _ _ _ hk.1 hk.2 (fun hf=>by cases hf) hx ?_
   rw[hs];exact hn
theorem sign(k:Nat)(x0:List Int)(hb:0<x0.length)(hx:x0.length<1000): ∃r,bH.f (k+12) x0=some r/\0<=r/\r<=x0.length:=l0 x0 hb hx 4 0 k rfl
theorem count(m:Nat): ∀(x0:List Int) (n:Nat) (k:Nat),x0.length<=m->m<1000->n+m<2000-> ∃r,dD.l0 (k+m+13) x0 (n:Int)=some r:=by
 induction m with
 |zero=>
  intro x0 n k h1 h2 h3;unfold dD.l0;rw[if_neg (by omega)];exact⟨_,rfl⟩
 |succ m ih=>
  intro x0 n k h1 h2 h3;rw[show k+(m+1)+13=(k+m+13)+1 from by omega];unfold dD.l0;by_cases hp:0<x0.length
  ·rw[if_pos (by omega)]
   obtain⟨r,hr,h0,h9⟩:=sign (k+m+1) x0 hp (by omega);rw[hr,Option.bind_some];by_cases hz:r=0
   ·rw[if_pos hz];exact⟨_,rfl⟩
   ·rw[if_neg hz,if_pos h0,if_pos h9,xR (by omega) (by omega)]
    exact ih (x0.drop r.toNat) (n+1) k (by rw[List.length_drop];omega) (by omega) (by omega)
  ·rw[if_neg (by omega)]
   exact⟨_,rfl⟩
theorem right(x0:List Int)(h:x0.length<=500): ∃r,jS.f 1000 x0=some r:=by
 obtain⟨r,hr⟩:=count 500 x0 0 487 h (by omega) (by omega);unfold jS.f dD.f;have hr':dD.l0 1000 x0 0=some r:=hr;rw[hr'];exact⟨_,rfl⟩
end Tx
def Sp.text(b:List Int):Bool:=(jS.f 1000 b).getD false
theorem Kh(b:List Int)(h:b.length<=500):jS.f 1000 b=some (Sp.text b):=by
 obtain⟨r,hr⟩:=Tx.right b h;rw[hr];unfold Sp.text;rw[hr];rfl
end Go.Proofs.YthehihjcpiadgaaGreat
end
