import Derived.Maps.Own
import Derived.Maps.Views
import Derived.Maps.OwnOps
import Derived.StringKeys
import Derived.Test.YthehihjcpiadgaaGreatCheckMadeS1
set_option maxRecDepth 100000
set_option maxHeartbeats 0
set_option linter.all false
open Go.Proofs.Tryz
namespace Go.Proofs.YthehihjcpiadgaaGreat
open Go.RowKit Go.Proofs.Wz.PrintWords Go.Proofs.Wz.bM
theorem jl{α:Type}{p:α->Bool}{xs:List α}{k:Nat}{y:α}(h:(xs.take k).any p=false)(hx:k<xs.length)(z:α)(e:y=mh z xs (k:Int))(he:p y=false):(xs.take (k+1)).any p=false:=by
 subst e;rw[List.take_succ_eq_append_getElem hx,List.any_append,h];simp[mh,gq,hx]at he;simp[he]
theorem nL{α:Type}{p:α->Bool}{xs:List α}{k:Nat}{y:α}(hx:k<xs.length)(z:α)(e:y=mh z xs (k:Int))(he:p y=true):xs.any p=true:=by
 subst e;rw[List.any_eq_true];simp[mh,gq,hx]at he;exact⟨xs[k],List.getElem_mem hx,he⟩
def j5(b:Bool)(w:World)(e:Ending)(w':World):Prop:= ∃r:Int,e= .returned (.int .i64 r)/\decide (0<=r)=b/\Below w.heap.size w w'
theorem yT(G:Nat)(p:aW->Bool)(hG: ∀cs w,Sem.run prog (callFunc G #[.agg cs]) w= .ok (.enter G #[.agg cs]) w)(hp: ∀x cs w,bW.K w x cs->Calls prog G #[.agg cs.toArray] w (aB (p x) w))(A:Option Addr)(cA:Nat)(xs:List aW)(w:World)(hx:bW.C w A xs.length xs):
 Calls prog 176 #[.slice A xs.length cA,.func (.func G) #[] #[]] w (j5 (xs.any p) w):=by
 have mx:=Kd.qy hx;have HX:=hd hx;have HP:=hd hp;have HG:=hd hG;clear hx hp hG
 go_enter func176,ntmps176
 go_wp2
 go_loopw [8] (fun i wr=> ∃k:Nat,k<=xs.length/\i= .int .i64 k/\Hid ((xs.take k).any p=false)/\Hid (Below w.heap.size w wr)) (fun i _=>xs.length-(intOf i).toNat)
 case atStart=>exact⟨0,by omega,rfl,hd rfl,hd (ay _ _)⟩
 case round=>
  obtain⟨k,hk,rfl,ht,hb⟩:=hrel;rename_i wr _;by_cases bI:k<xs.length
  ·obtain⟨ad,A4,c4,rfl,e0,e1,e2,e3,e4,m4,q4⟩:=jF (Kd.bJ HX.o hb.o) (k:Int) (by omega) (by omega)
   rw[dF]at e0 e1 e2 e3 e4;have tB:=HP.o (aO xs k) _ wr (qE wr (aO xs k) m4 q4);have HK:=hd tB;clear tB m4 q4;cases hp:p (aO xs k)with
   |false=>
    rw[hp]at HK;have HB:=hd hp;clear hp
    go_wp2_with fail
    rw[HG.o,Oper.upon_enter];refine HK.o.mono ?_;rintro e w'⟨rfl,hb1⟩;have hb2:=hd (hb.o.trans (hb1.mono hb.o.size));clear hb1
    go_wp2_with fail
    go_roundw
    case rel=>exact⟨k+1,by omega,by go_num,hd (jl ht.o bI Ep rfl HB.o),hb2⟩
    case measure=>simp[intOf];omega
   |true=>
    rw[hp]at HK;have HB:=hd hp;clear hp
    go_wp2_with fail
    rw[HG.o,Oper.upon_enter];refine HK.o.mono ?_;rintro e w'⟨rfl,hb1⟩;have hb2:=hd (hb.o.trans (hb1.mono hb.o.size));clear hb1
    go_wp2_with fail
    go_ret;exact⟨(k:Int),rfl,by rw[nL bI Ep rfl HB.o];simp,hb2.o⟩
  ·go_wp2
   go_ret;refine⟨-1,rfl,?_,hb.o⟩;have:k=xs.length:=by omega
   subst this;have h:=ht.o;rw[List.take_of_length_le (aU _)]at h;rw[h];rfl
theorem uq(G:Nat)(p:aW->Bool)(hG: ∀cs w,Sem.run prog (callFunc G #[.agg cs]) w= .ok (.enter G #[.agg cs]) w)(hp: ∀x cs w,bW.K w x cs->Calls prog G #[.agg cs.toArray] w (aB (p x) w))(A:Option Addr)(cA:Nat)(xs:List aW)(w:World)(hx:bW.C w A xs.length xs):
 Calls prog 126 #[.slice A xs.length cA,.func (.func G) #[] #[]] w (aB (xs.any p) w):=by
 have HC:=hd (yT G p hG hp A cA xs w hx);clear hx hp hG
 go_enter func126,ntmps126
 go_wp2_with fail
 refine HC.o.mono ?_;rintro e w'⟨r,rfl,hr,hb⟩;have HR:=hd hr;have HB:=hd hb;clear hr hb
 go_wp2_with fail
 go_ret;have hr:=HR.o;exact⟨by rw[<-hr];rfl,HB.o⟩
theorem AB(G:Nat)(p:ig->Bool)(cap:Option Addr)(w:World)(hG: ∀cs w,Sem.run prog (callFunc G #[.agg cs,.pointer cap]) w= .ok (.enter G #[.agg cs,.pointer cap]) w)(hp: ∀x cs wr,Below w.heap.size w wr->qo.K wr x cs->Calls prog G #[.agg cs.toArray,.pointer cap] wr (aB (p x) wr))(A:Option Addr)(cA:Nat)(xs:List ig)(hx:qo.C w A xs.length xs):
 Calls prog 171 #[.slice A xs.length cA,.func (.func G) #[] #[.pointer cap]] w (j5 (xs.any p) w):=by
 have mx:=Kd.qy hx;have HX:=hd hx;have HP:=hd hp;have HG:=hd hG;clear hx hp hG
 go_enter func171,ntmps171
 go_wp2
 go_loopw [8] (fun i wr=> ∃k:Nat,k<=xs.length/\i= .int .i64 k/\Hid ((xs.take k).any p=false)/\Hid (Below w.heap.size w wr)) (fun i _=>xs.length-(intOf i).toNat)
 case atStart=>exact⟨0,by omega,rfl,hd rfl,hd (ay _ _)⟩
 case round=>
  obtain⟨k,hk,rfl,ht,hb⟩:=hrel;rename_i wr _;by_cases bI:k<xs.length
  ·obtain⟨ad,A0,c0,A1,c1,rfl,e0,e1,m0,q0,m1,q1⟩:=qF (Kd.bJ HX.o hb.o) (k:Int) (by omega) (by omega)
   rw[dF]at e0 e1;have tB:=HP.o (cD xs k) _ wr hb.o (kU wr (cD xs k) m0 q0 m1 q1);have HK:=hd tB;clear tB m0 q0 m1 q1;cases hp:p (cD xs k)with
   |false=>
    rw[hp]at HK;have HB:=hd hp;clear hp
    go_wp2_with fail
    rw[HG.o,Oper.upon_enter];refine HK.o.mono ?_;rintro e w'⟨rfl,hb1⟩;have hb2:=hd (hb.o.trans (hb1.mono hb.o.size));clear hb1
    go_wp2_with fail
    go_roundw
    case rel=>exact⟨k+1,by omega,by go_num,hd (jl ht.o bI cv rfl HB.o),hb2⟩
    case measure=>simp[intOf];omega
   |true=>
    rw[hp]at HK;have HB:=hd hp;clear hp
    go_wp2_with fail
    rw[HG.o,Oper.upon_enter];refine HK.o.mono ?_;rintro e w'⟨rfl,hb1⟩;have hb2:=hd (hb.o.trans (hb1.mono hb.o.size));clear hb1
    go_wp2_with fail
    go_ret;exact⟨(k:Int),rfl,by rw[nL bI cv rfl HB.o];simp,hb2.o⟩
  ·go_wp2
   go_ret;refine⟨-1,rfl,?_,hb.o⟩;have:k=xs.length:=by omega
   subst this;have h:=ht.o;rw[List.take_of_length_le (aU _)]at h;rw[h];rfl
theorem vD(G:Nat)(p:ig->Bool)(cap:Option Addr)(w:World)(hG: ∀cs w,Sem.run prog (callFunc G #[.agg cs,.pointer cap]) w= .ok (.enter G #[.agg cs,.pointer cap]) w)(hp: ∀x cs wr,Below w.heap.size w wr->qo.K wr x cs->Calls prog G #[.agg cs.toArray,.pointer cap] wr (aB (p x) wr))(A:Option Addr)(cA:Nat)(xs:List ig)(hx:qo.C w A xs.length xs):
 Calls prog 117 #[.slice A xs.length cA,.func (.func G) #[] #[.pointer cap]] w (aB (xs.any p) w):=by
 have HC:=hd (AB G p cap w hG hp A cA xs hx);clear hx hp hG
 go_enter func117,ntmps117
 go_wp2_with fail
 refine HC.o.mono ?_;rintro e w'⟨r,rfl,hr,hb⟩;have HR:=hd hr;have HB:=hd hb;clear hr hb
 go_wp2_with fail
 go_ret;have hr:=HR.o;exact⟨by rw[<-hr];rfl,HB.o⟩
theorem yU(G:Nat)(p:iX->Bool)(cap:Option Addr)(w:World)(hG: ∀cs w,Sem.run prog (callFunc G #[.agg cs,.pointer cap]) w= .ok (.enter G #[.agg cs,.pointer cap]) w)(hp: ∀x cs wr,Below w.heap.size w wr->j8.K wr x cs->Calls prog G #[.agg cs.toArray,.pointer cap] wr (aB (p x) wr))(A:Option Addr)(cA:Nat)(xs:List iX)(hx:j8.C w A xs.length xs):
 Calls prog 172 #[.slice A xs.length cA,.func (.func G) #[] #[.pointer cap]] w (j5 (xs.any p) w):=by
 have mx:=Kd.qy hx;have HX:=hd hx;have HP:=hd hp;have HG:=hd hG;clear hx hp hG
 go_enter func172,ntmps172
 go_wp2
 go_loopw [8] (fun i wr=> ∃k:Nat,k<=xs.length/\i= .int .i64 k/\Hid ((xs.take k).any p=false)/\Hid (Below w.heap.size w wr)) (fun i _=>xs.length-(intOf i).toNat)
 case atStart=>exact⟨0,by omega,rfl,hd rfl,hd (ay _ _)⟩
 case round=>
  obtain⟨k,hk,rfl,ht,hb⟩:=hrel;rename_i wr _;by_cases bI:k<xs.length
  ·obtain⟨ad,rfl,e0,e1,e2⟩:=tR (Kd.bJ HX.o hb.o) (k:Int) (by omega) (by omega)
   rw[dF]at e0 e1 e2;have tB:=HP.o (ij xs k) _ wr hb.o (tQ wr (ij xs k));have HK:=hd tB;clear tB;cases hp:p (ij xs k)with
   |false=>
    rw[hp]at HK;have HB:=hd hp;clear hp
    go_wp2_with fail
    rw[HG.o,Oper.upon_enter];refine HK.o.mono ?_;rintro e w'⟨rfl,hb1⟩;have hb2:=hd (hb.o.trans (hb1.mono hb.o.size));clear hb1
    go_wp2_with fail
    go_roundw
    case rel=>exact⟨k+1,by omega,by go_num,hd (jl ht.o bI MF rfl HB.o),hb2⟩
    case measure=>simp[intOf];omega
   |true=>
    rw[hp]at HK;have HB:=hd hp;clear hp
    go_wp2_with fail
    rw[HG.o,Oper.upon_enter];refine HK.o.mono ?_;rintro e w'⟨rfl,hb1⟩;have hb2:=hd (hb.o.trans (hb1.mono hb.o.size));clear hb1
    go_wp2_with fail
    go_ret;exact⟨(k:Int),rfl,by rw[nL bI MF rfl HB.o];simp,hb2.o⟩
  ·go_wp2
   go_ret;refine⟨-1,rfl,?_,hb.o⟩;have:k=xs.length:=by omega
   subst this;have h:=ht.o;rw[List.take_of_length_le (aU _)]at h;rw[h];rfl
theorem ur(G:Nat)(p:iX->Bool)(cap:Option Addr)(w:World)(hG: ∀cs w,Sem.run prog (callFunc G #[.agg cs,.pointer cap]) w= .ok (.enter G #[.agg cs,.pointer cap]) w)(hp: ∀x cs wr,Below w.heap.size w wr->j8.K wr x cs->Calls prog G #[.agg cs.toArray,.pointer cap] wr (aB (p x) wr))(A:Option Addr)(cA:Nat)(xs:List iX)(hx:j8.C w A xs.length xs):
 Calls prog 119 #[.slice A xs.length cA,.func (.func G) #[] #[.pointer cap]] w (aB (xs.any p) w):=by
 have HC:=hd (yU G p cap w hG hp A cA xs hx);clear hx hp hG
 go_enter func119,ntmps119
 go_wp2_with fail
 refine HC.o.mono ?_;rintro e w'⟨r,rfl,hr,hb⟩;have HR:=hd hr;have HB:=hd hb;clear hr hb
 go_wp2_with fail
 go_ret;have hr:=HR.o;exact⟨by rw[<-hr];rfl,HB.o⟩
theorem yV(G:Nat)(p:iB->Bool)(cap:Option Addr)(w:World)(hG: ∀cs w,Sem.run prog (callFunc G #[.agg cs,.pointer cap]) w= .ok (.enter G #[.agg cs,.pointer cap]) w)(hp: ∀x cs wr,Below w.heap.size w wr->fL.K wr x cs->Calls prog G #[.agg cs.toArray,.pointer cap] wr (aB (p x) wr))(A:Option Addr)(cA:Nat)(xs:List iB)(hx:fL.C w A xs.length xs):
 Calls prog 175 #[.slice A xs.length cA,.func (.func G) #[] #[.pointer cap]] w (j5 (xs.any p) w):=by
 have mx:=Kd.qy hx;have HX:=hd hx;have HP:=hd hp;have HG:=hd hG;clear hx hp hG
 go_enter func175,ntmps175
 go_wp2
 go_loopw [8] (fun i wr=> ∃k:Nat,k<=xs.length/\i= .int .i64 k/\Hid ((xs.take k).any p=false)/\Hid (Below w.heap.size w wr)) (fun i _=>xs.length-(intOf i).toNat)
 case atStart=>exact⟨0,by omega,rfl,hd rfl,hd (ay _ _)⟩
 case round=>
  obtain⟨k,hk,rfl,ht,hb⟩:=hrel;rename_i wr _;by_cases bI:k<xs.length
  ·obtain⟨ad,A1,c1,A2,c2,rfl,e0,e1,e2,m1,q1,m2,q2⟩:=ku (Kd.bJ HX.o hb.o) (k:Int) (by omega) (by omega)
   rw[dF]at e0 e1 e2;have tB:=HP.o (aF xs k) _ wr hb.o (tO wr (aF xs k) m1 q1 m2 q2);have HK:=hd tB;clear tB m1 q1 m2 q2;cases hp:p (aF xs k)with
   |false=>
    rw[hp]at HK;have HB:=hd hp;clear hp
    go_wp2_with fail
    rw[HG.o,Oper.upon_enter];refine HK.o.mono ?_;rintro e w'⟨rfl,hb1⟩;have hb2:=hd (hb.o.trans (hb1.mono hb.o.size));clear hb1
    go_wp2_with fail
    go_roundw
    case rel=>exact⟨k+1,by omega,by go_num,hd (jl ht.o bI yD rfl HB.o),hb2⟩
    case measure=>simp[intOf];omega
   |true=>
    rw[hp]at HK;have HB:=hd hp;clear hp
    go_wp2_with fail
    rw[HG.o,Oper.upon_enter];refine HK.o.mono ?_;rintro e w'⟨rfl,hb1⟩;have hb2:=hd (hb.o.trans (hb1.mono hb.o.size));clear hb1
    go_wp2_with fail
    go_ret;exact⟨(k:Int),rfl,by rw[nL bI yD rfl HB.o];simp,hb2.o⟩
  ·go_wp2
   go_ret;refine⟨-1,rfl,?_,hb.o⟩;have:k=xs.length:=by omega
   subst this;have h:=ht.o;rw[List.take_of_length_le (aU _)]at h;rw[h];rfl
theorem uu(G:Nat)(p:iB->Bool)(cap:Option Addr)(w:World)(hG: ∀cs w,Sem.run prog (callFunc G #[.agg cs,.pointer cap]) w= .ok (.enter G #[.agg cs,.pointer cap]) w)(hp: ∀x cs wr,Below w.heap.size w wr->fL.K wr x cs->Calls prog G #[.agg cs.toArray,.pointer cap] wr (aB (p x) wr))(A:Option Addr)(cA:Nat)(xs:List iB)(hx:fL.C w A xs.length xs):
 Calls prog 124 #[.slice A xs.length cA,.func (.func G) #[] #[.pointer cap]] w (aB (xs.any p) w):=by
 have HC:=hd (yV G p cap w hG hp A cA xs hx);clear hx hp hG
 go_enter func124,ntmps124
 go_wp2_with fail
 refine HC.o.mono ?_;rintro e w'⟨r,rfl,hr,hb⟩;have HR:=hd hr;have HB:=hd hb;clear hr hb
 go_wp2_with fail
 go_ret;have hr:=HR.o;exact⟨by rw[<-hr];rfl,HB.o⟩
theorem yX(G:Nat)(p:jw->Bool)(cap:Option Addr)(w:World)(hG: ∀cs w,Sem.run prog (callFunc G #[.agg cs,.pointer cap]) w= .ok (.enter G #[.agg cs,.pointer cap]) w)(hp: ∀x cs wr,Below w.heap.size w wr->jQ.K wr x cs->Calls prog G #[.agg cs.toArray,.pointer cap] wr (aB (p x) wr))(A:Option Addr)(cA:Nat)(xs:List jw)(hx:jQ.C w A xs.length xs):
 Calls prog 178 #[.slice A xs.length cA,.func (.func G) #[] #[.pointer cap]] w (j5 (xs.any p) w):=by
 have mx:=Kd.qy hx;have HX:=hd hx;have HP:=hd hp;have HG:=hd hG;clear hx hp hG
 go_enter func178,ntmps178
 go_wp2
 go_loopw [8] (fun i wr=> ∃k:Nat,k<=xs.length/\i= .int .i64 k/\Hid ((xs.take k).any p=false)/\Hid (Below w.heap.size w wr)) (fun i _=>xs.length-(intOf i).toNat)
 case atStart=>exact⟨0,by omega,rfl,hd rfl,hd (ay _ _)⟩
 case round=>
  obtain⟨k,hk,rfl,ht,hb⟩:=hrel;rename_i wr _;by_cases bI:k<xs.length
  ·obtain⟨ad,rfl,e0,e1⟩:=QE (Kd.bJ HX.o hb.o) (k:Int) (by omega) (by omega)
   rw[dF]at e0 e1;have tB:=HP.o (tP xs k) _ wr hb.o (CE wr (tP xs k));have HK:=hd tB;clear tB;cases hp:p (tP xs k)with
   |false=>
    rw[hp]at HK;have HB:=hd hp;clear hp
    go_wp2_with fail
    rw[HG.o,Oper.upon_enter];refine HK.o.mono ?_;rintro e w'⟨rfl,hb1⟩;have hb2:=hd (hb.o.trans (hb1.mono hb.o.size));clear hb1
    go_wp2_with fail
    go_roundw
    case rel=>exact⟨k+1,by omega,by go_num,hd (jl ht.o bI QD rfl HB.o),hb2⟩
    case measure=>simp[intOf];omega
   |true=>
    rw[hp]at HK;have HB:=hd hp;clear hp
    go_wp2_with fail
    rw[HG.o,Oper.upon_enter];refine HK.o.mono ?_;rintro e w'⟨rfl,hb1⟩;have hb2:=hd (hb.o.trans (hb1.mono hb.o.size));clear hb1
    go_wp2_with fail
    go_ret;exact⟨(k:Int),rfl,by rw[nL bI QD rfl HB.o];simp,hb2.o⟩
  ·go_wp2
   go_ret;refine⟨-1,rfl,?_,hb.o⟩;have:k=xs.length:=by omega
   subst this;have h:=ht.o;rw[List.take_of_length_le (aU _)]at h;rw[h];rfl
theorem uv(G:Nat)(p:jw->Bool)(cap:Option Addr)(w:World)(hG: ∀cs w,Sem.run prog (callFunc G #[.agg cs,.pointer cap]) w= .ok (.enter G #[.agg cs,.pointer cap]) w)(hp: ∀x cs wr,Below w.heap.size w wr->jQ.K wr x cs->Calls prog G #[.agg cs.toArray,.pointer cap] wr (aB (p x) wr))(A:Option Addr)(cA:Nat)(xs:List jw)(hx:jQ.C w A xs.length xs):
 Calls prog 129 #[.slice A xs.length cA,.func (.func G) #[] #[.pointer cap]] w (aB (xs.any p) w):=by
 have HC:=hd (yX G p cap w hG hp A cA xs hx);clear hx hp hG
 go_enter func129,ntmps129
 go_wp2_with fail
 refine HC.o.mono ?_;rintro e w'⟨r,rfl,hr,hb⟩;have HR:=hd hr;have HB:=hd hb;clear hr hb
 go_wp2_with fail
 go_ret;have hr:=HR.o;exact⟨by rw[<-hr];rfl,HB.o⟩
theorem xk(G:Nat)(p:dV->Bool)(cap:Option Addr)(w:World)(hG: ∀cs w,Sem.run prog (callFunc G #[.agg cs,.pointer cap]) w= .ok (.enter G #[.agg cs,.pointer cap]) w)(hp: ∀x cs wr,Below w.heap.size w wr->eE.K wr x cs->Calls prog G #[.agg cs.toArray,.pointer cap] wr (aB (p x) wr))(A:Option Addr)(cA:Nat)(xs:List dV)(hx:eE.C w A xs.length xs):
 Calls prog 179 #[.slice A xs.length cA,.func (.func G) #[] #[.pointer cap]] w (j5 (xs.any p) w):=by
 have mx:=Kd.qy hx;have HX:=hd hx;have HP:=hd hp;have HG:=hd hG;clear hx hp hG
 go_enter func179,ntmps179
 go_wp2
 go_loopw [8] (fun i wr=> ∃k:Nat,k<=xs.length/\i= .int .i64 k/\Hid ((xs.take k).any p=false)/\Hid (Below w.heap.size w wr)) (fun i _=>xs.length-(intOf i).toNat)
 case atStart=>exact⟨0,by omega,rfl,hd rfl,hd (ay _ _)⟩
 case round=>
  obtain⟨k,hk,rfl,ht,hb⟩:=hrel;rename_i wr _;by_cases bI:k<xs.length
  ·obtain⟨ad,rfl,e0,e1,e2⟩:=qG (Kd.bJ HX.o hb.o) (k:Int) (by omega) (by omega)
   rw[dF]at e0 e1 e2;have tB:=HP.o (dg xs k) _ wr hb.o (lK wr (dg xs k));have HK:=hd tB;clear tB;cases hp:p (dg xs k)with
   |false=>
    rw[hp]at HK;have HB:=hd hp;clear hp
    go_wp2_with fail
    rw[HG.o,Oper.upon_enter];refine HK.o.mono ?_;rintro e w'⟨rfl,hb1⟩;have hb2:=hd (hb.o.trans (hb1.mono hb.o.size));clear hb1
    go_wp2_with fail
    go_roundw
    case rel=>exact⟨k+1,by omega,by go_num,hd (jl ht.o bI Er rfl HB.o),hb2⟩
    case measure=>simp[intOf];omega
   |true=>
    rw[hp]at HK;have HB:=hd hp;clear hp
    go_wp2_with fail
    rw[HG.o,Oper.upon_enter];refine HK.o.mono ?_;rintro e w'⟨rfl,hb1⟩;have hb2:=hd (hb.o.trans (hb1.mono hb.o.size));clear hb1
    go_wp2_with fail
    go_ret;exact⟨(k:Int),rfl,by rw[nL bI Er rfl HB.o];simp,hb2.o⟩
  ·go_wp2
   go_ret;refine⟨-1,rfl,?_,hb.o⟩;have:k=xs.length:=by omega
   subst this;have h:=ht.o;rw[List.take_of_length_le (aU _)]at h;rw[h];rfl
theorem sU(G:Nat)(p:dV->Bool)(cap:Option Addr)(w:World)(hG: ∀cs w,Sem.run prog (callFunc G #[.agg cs,.pointer cap]) w= .ok (.enter G #[.agg cs,.pointer cap]) w)(hp: ∀x cs wr,Below w.heap.size w wr->eE.K wr x cs->Calls prog G #[.agg cs.toArray,.pointer cap] wr (aB (p x) wr))(A:Option Addr)(cA:Nat)(xs:List dV)(hx:eE.C w A xs.length xs):
 Calls prog 131 #[.slice A xs.length cA,.func (.func G) #[] #[.pointer cap]] w (aB (xs.any p) w):=by
 have HC:=hd (xk G p cap w hG hp A cA xs hx);clear hx hp hG
 go_enter func131,ntmps131
 go_wp2_with fail
 refine HC.o.mono ?_;rintro e w'⟨r,rfl,hr,hb⟩;have HR:=hd hr;have HB:=hd hb;clear hr hb
 go_wp2_with fail
 go_ret;have hr:=HR.o;exact⟨by rw[<-hr];rfl,HB.o⟩
theorem xl(G:Nat)(p:eF->Bool)(cap:Option Addr)(w:World)(hG: ∀cs w,Sem.run prog (callFunc G #[.agg cs,.pointer cap]) w= .ok (.enter G #[.agg cs,.pointer cap]) w)(hp: ∀x cs wr,Below w.heap.size w wr->fM.K wr x cs->Calls prog G #[.agg cs.toArray,.pointer cap] wr (aB (p x) wr))(A:Option Addr)(cA:Nat)(xs:List eF)(hx:fM.C w A xs.length xs):
 Calls prog 181 #[.slice A xs.length cA,.func (.func G) #[] #[.pointer cap]] w (j5 (xs.any p) w):=by
 have mx:=Kd.qy hx;have HX:=hd hx;have HP:=hd hp;have HG:=hd hG;clear hx hp hG
 go_enter func181,ntmps181
 go_wp2
 go_loopw [8] (fun i wr=> ∃k:Nat,k<=xs.length/\i= .int .i64 k/\Hid ((xs.take k).any p=false)/\Hid (Below w.heap.size w wr)) (fun i _=>xs.length-(intOf i).toNat)
 case atStart=>exact⟨0,by omega,rfl,hd rfl,hd (ay _ _)⟩
 case round=>
  obtain⟨k,hk,rfl,ht,hb⟩:=hrel;rename_i wr _;by_cases bI:k<xs.length
  ·obtain⟨ad,A3,c3,rfl,e0,e1,e2,e3,m3,q3⟩:=yE (Kd.bJ HX.o hb.o) (k:Int) (by omega) (by omega)
   rw[dF]at e0 e1 e2 e3;have tB:=HP.o (iO xs k) _ wr hb.o (qI wr (iO xs k) m3 q3);have HK:=hd tB;clear tB m3 q3;cases hp:p (iO xs k)with
   |false=>
    rw[hp]at HK;have HB:=hd hp;clear hp
    go_wp2_with fail
    rw[HG.o,Oper.upon_enter];refine HK.o.mono ?_;rintro e w'⟨rfl,hb1⟩;have hb2:=hd (hb.o.trans (hb1.mono hb.o.size));clear hb1
    go_wp2_with fail
    go_roundw
    case rel=>exact⟨k+1,by omega,by go_num,hd (jl ht.o bI qH rfl HB.o),hb2⟩
    case measure=>simp[intOf];omega
   |true=>
    rw[hp]at HK;have HB:=hd hp;clear hp
    go_wp2_with fail
    rw[HG.o,Oper.upon_enter];refine HK.o.mono ?_;rintro e w'⟨rfl,hb1⟩;have hb2:=hd (hb.o.trans (hb1.mono hb.o.size));clear hb1
    go_wp2_with fail
    go_ret;exact⟨(k:Int),rfl,by rw[nL bI qH rfl HB.o];simp,hb2.o⟩
  ·go_wp2
   go_ret;refine⟨-1,rfl,?_,hb.o⟩;have:k=xs.length:=by omega
   subst this;have h:=ht.o;rw[List.take_of_length_le (aU _)]at h;rw[h];rfl
theorem sV(G:Nat)(p:eF->Bool)(cap:Option Addr)(w:World)(hG: ∀cs w,Sem.run prog (callFunc G #[.agg cs,.pointer cap]) w= .ok (.enter G #[.agg cs,.pointer cap]) w)(hp: ∀x cs wr,Below w.heap.size w wr->fM.K wr x cs->Calls prog G #[.agg cs.toArray,.pointer cap] wr (aB (p x) wr))(A:Option Addr)(cA:Nat)(xs:List eF)(hx:fM.C w A xs.length xs):
 Calls prog 135 #[.slice A xs.length cA,.func (.func G) #[] #[.pointer cap]] w (aB (xs.any p) w):=by
 have HC:=hd (xl G p cap w hG hp A cA xs hx);clear hx hp hG
 go_enter func135,ntmps135
 go_wp2_with fail
 refine HC.o.mono ?_;rintro e w'⟨r,rfl,hr,hb⟩;have HR:=hd hr;have HB:=hd hb;clear hr hb
 go_wp2_with fail
 go_ret;have hr:=HR.o;exact⟨by rw[<-hr];rfl,HB.o⟩
theorem yY(G:Nat)(p:jA->Bool)(cap:Option Addr)(w:World)(hG: ∀cs w,Sem.run prog (callFunc G #[.agg cs,.pointer cap]) w= .ok (.enter G #[.agg cs,.pointer cap]) w)(hp: ∀x cs wr,Below w.heap.size w wr->kH.K wr x cs->Calls prog G #[.agg cs.toArray,.pointer cap] wr (aB (p x) wr))(A:Option Addr)(cA:Nat)(xs:List jA)(hx:kH.C w A xs.length xs):
 Calls prog 174 #[.slice A xs.length cA,.func (.func G) #[] #[.pointer cap]] w (j5 (xs.any p) w):=by
 have mx:=Kd.qy hx;have HX:=hd hx;have HP:=hd hp;have HG:=hd hG;clear hx hp hG
 go_enter func174,ntmps174
 go_wp2
 go_loopw [8] (fun i wr=> ∃k:Nat,k<=xs.length/\i= .int .i64 k/\Hid ((xs.take k).any p=false)/\Hid (Below w.heap.size w wr)) (fun i _=>xs.length-(intOf i).toNat)
 case atStart=>exact⟨0,by omega,rfl,hd rfl,hd (ay _ _)⟩
 case round=>
  obtain⟨k,hk,rfl,ht,hb⟩:=hrel;rename_i wr _;by_cases bI:k<xs.length
  ·obtain⟨ad,A1,c1,rfl,e0,e1,m1,q1⟩:=QH (Kd.bJ HX.o hb.o) (k:Int) (by omega) (by omega)
   rw[dF]at e0 e1;have tB:=HP.o (nI xs k) _ wr hb.o (xA wr (nI xs k) m1 q1);have HK:=hd tB;clear tB m1 q1;cases hp:p (nI xs k)with
   |false=>
    rw[hp]at HK;have HB:=hd hp;clear hp
    go_wp2_with fail
    rw[HG.o,Oper.upon_enter];refine HK.o.mono ?_;rintro e w'⟨rfl,hb1⟩;have hb2:=hd (hb.o.trans (hb1.mono hb.o.size));clear hb1
    go_wp2_with fail
    go_roundw
    case rel=>exact⟨k+1,by omega,by go_num,hd (jl ht.o bI QG rfl HB.o),hb2⟩
    case measure=>simp[intOf];omega
   |true=>
    rw[hp]at HK;have HB:=hd hp;clear hp
    go_wp2_with fail
    rw[HG.o,Oper.upon_enter];refine HK.o.mono ?_;rintro e w'⟨rfl,hb1⟩;have hb2:=hd (hb.o.trans (hb1.mono hb.o.size));clear hb1
    go_wp2_with fail
    go_ret;exact⟨(k:Int),rfl,by rw[nL bI QG rfl HB.o];simp,hb2.o⟩
  ·go_wp2
   go_ret;refine⟨-1,rfl,?_,hb.o⟩;have:k=xs.length:=by omega
   subst this;have h:=ht.o;rw[List.take_of_length_le (aU _)]at h;rw[h];rfl
theorem uw(G:Nat)(p:jA->Bool)(cap:Option Addr)(w:World)(hG: ∀cs w,Sem.run prog (callFunc G #[.agg cs,.pointer cap]) w= .ok (.enter G #[.agg cs,.pointer cap]) w)(hp: ∀x cs wr,Below w.heap.size w wr->kH.K wr x cs->Calls prog G #[.agg cs.toArray,.pointer cap] wr (aB (p x) wr))(A:Option Addr)(cA:Nat)(xs:List jA)(hx:kH.C w A xs.length xs):
 Calls prog 122 #[.slice A xs.length cA,.func (.func G) #[] #[.pointer cap]] w (aB (xs.any p) w):=by
 have HC:=hd (yY G p cap w hG hp A cA xs hx);clear hx hp hG
 go_enter func122,ntmps122
 go_wp2_with fail
 refine HC.o.mono ?_;rintro e w'⟨r,rfl,hr,hb⟩;have HR:=hd hr;have HB:=hd hb;clear hr hb
 go_wp2_with fail
 go_ret;have hr:=HR.o;exact⟨by rw[<-hr];rfl,HB.o⟩
theorem Ri(F:Nat)(p:ig->Bool)(hG: ∀cs w,Sem.run prog (callFunc F #[.agg cs]) w= .ok (.enter F #[.agg cs]) w)(g:Nat)(wr:World)(hc:wr.cell? ⟨g,0,none⟩=some (.func (.func F) #[] #[]))(hg:g<wr.heap.size)(x:ig)(cs:List Value)(hx:qo.K wr x cs)(hp: ∀x cs w',Below wr.heap.size wr w'->qo.K w' x cs->Calls prog F #[.agg cs.toArray] w' (aB (p x) w')):
 Calls prog 118 #[.agg cs.toArray,.pointer (some ⟨g,0,none⟩)] wr (aB (!p x) wr):=by
 obtain⟨A0,c0,A1,c1,rfl,m0,q0,m1,q1⟩:=yC hx;have HG:=hd hG;have HP:=hd hp;clear hG hp hx
 go_enter func118,ntmps118
 go_wp2_with fail
 rw[HG.o,Oper.upon_enter];refine(HP.o x _ _ (by repeat (first|exact ay _ _|refine af ?_ _)) (kU _ x m0 (Kd.aS q0 _) m1 (Kd.aS q1 _))).mono ?_;rintro e w'⟨rfl,hb1⟩;have HB:=hd hb1;clear hb1
 go_wp2_with fail
 go_ret;exact⟨rfl,az (by repeat (first|exact ay _ _|refine af ?_ _)) HB.o⟩
theorem Uu(F:Nat)(p:ig->Bool)(w:World)(hG: ∀cs w,Sem.run prog (callFunc F #[.agg cs]) w= .ok (.enter F #[.agg cs]) w)(hp: ∀x cs w',Below w.heap.size w w'->qo.K w' x cs->Calls prog F #[.agg cs.toArray] w' (aB (p x) w'))(A:Option Addr)(cA:Nat)(xs:List ig)(hx:qo.C w A xs.length xs):
 Calls prog 62 #[.slice A xs.length cA,.func (.func F) #[] #[]] w (aB (xs.all p) w):=by
 have HG:=hd hG;have HP:=hd hp;have HX:=hd hx;clear hG hp hx
 go_enter func62,ntmps62
 go_wp2_with fail
 go_at_call 117
 refine(vD 118 (fun x=> !p x) _ _ (fun cs w=>enters_of func118 (by kernel_rfl) rfl _ w) (fun x cs wr hb hx=>?_) A cA xs (by repeat (first|exact HX.o|apply Kd.aS))).mono ?_
 ·exact Ri F p HG.o _ wr (by have h:=(iQ hb).1 w.heap.size 0 (by simp);rw[h];simp[go_sem]) (by have:=hb.size;simp at this;omega) x cs hx (fun x cs w' hb' hx=>HP.o x cs w' (((af (ay _ _) _).trans (hb.mono (by simp))).trans (hb'.mono (by have:=hb.size;simp at this;omega))) hx)
 rintro e w'⟨rfl,hb1⟩;have HB:=hd hb1;clear hb1
 go_wp2_with fail
 go_ret;exact⟨by rw[List.all_eq_not_any_not];rfl,az (af (ay _ _) _) HB.o⟩
theorem NA(F:Nat)(p:iX->Bool)(hG: ∀cs w,Sem.run prog (callFunc F #[.agg cs]) w= .ok (.enter F #[.agg cs]) w)(g:Nat)(wr:World)(hc:wr.cell? ⟨g,0,none⟩=some (.func (.func F) #[] #[]))(hg:g<wr.heap.size)(x:iX)(cs:List Value)(hx:j8.K wr x cs)(hp: ∀x cs w',Below wr.heap.size wr w'->j8.K w' x cs->Calls prog F #[.agg cs.toArray] w' (aB (p x) w')):
 Calls prog 120 #[.agg cs.toArray,.pointer (some ⟨g,0,none⟩)] wr (aB (!p x) wr):=by
 obtain rfl:=vn hx;have HG:=hd hG;have HP:=hd hp;clear hG hp hx
 go_enter func120,ntmps120
 go_wp2_with fail
 rw[HG.o,Oper.upon_enter];refine(HP.o x _ _ (by repeat (first|exact ay _ _|refine af ?_ _)) (tQ _ x)).mono ?_;rintro e w'⟨rfl,hb1⟩;have HB:=hd hb1;clear hb1
 go_wp2_with fail
 go_ret;exact⟨rfl,az (by repeat (first|exact ay _ _|refine af ?_ _)) HB.o⟩
theorem Rj(F:Nat)(p:iX->Bool)(w:World)(hG: ∀cs w,Sem.run prog (callFunc F #[.agg cs]) w= .ok (.enter F #[.agg cs]) w)(hp: ∀x cs w',Below w.heap.size w w'->j8.K w' x cs->Calls prog F #[.agg cs.toArray] w' (aB (p x) w'))(A:Option Addr)(cA:Nat)(xs:List iX)(hx:j8.C w A xs.length xs):
 Calls prog 64 #[.slice A xs.length cA,.func (.func F) #[] #[]] w (aB (xs.all p) w):=by
 have HG:=hd hG;have HP:=hd hp;have HX:=hd hx;clear hG hp hx
 go_enter func64,ntmps64
 go_wp2_with fail
 go_at_call 119
 refine(ur 120 (fun x=> !p x) _ _ (fun cs w=>enters_of func120 (by kernel_rfl) rfl _ w) (fun x cs wr hb hx=>?_) A cA xs (by repeat (first|exact HX.o|apply Kd.aS))).mono ?_
 ·exact NA F p HG.o _ wr (by have h:=(iQ hb).1 w.heap.size 0 (by simp);rw[h];simp[go_sem]) (by have:=hb.size;simp at this;omega) x cs hx (fun x cs w' hb' hx=>HP.o x cs w' (((af (ay _ _) _).trans (hb.mono (by simp))).trans (hb'.mono (by have:=hb.size;simp at this;omega))) hx)
 rintro e w'⟨rfl,hb1⟩;have HB:=hd hb1;clear hb1
 go_wp2_with fail
 go_ret;exact⟨by rw[List.all_eq_not_any_not];rfl,az (af (ay _ _) _) HB.o⟩
theorem NB(F:Nat)(p:iB->Bool)(hG: ∀cs w,Sem.run prog (callFunc F #[.agg cs]) w= .ok (.enter F #[.agg cs]) w)(g:Nat)(wr:World)(hc:wr.cell? ⟨g,0,none⟩=some (.func (.func F) #[] #[]))(hg:g<wr.heap.size)(x:iB)(cs:List Value)(hx:fL.K wr x cs)(hp: ∀x cs w',Below wr.heap.size wr w'->fL.K w' x cs->Calls prog F #[.agg cs.toArray] w' (aB (p x) w')):
 Calls prog 125 #[.agg cs.toArray,.pointer (some ⟨g,0,none⟩)] wr (aB (!p x) wr):=by
 obtain⟨A1,c1,A2,c2,rfl,m1,q1,m2,q2⟩:=jY hx;have HG:=hd hG;have HP:=hd hp;clear hG hp hx
 go_enter func125,ntmps125
 go_wp2_with fail
 rw[HG.o,Oper.upon_enter];refine(HP.o x _ _ (by repeat (first|exact ay _ _|refine af ?_ _)) (tO _ x m1 (Kd.aS q1 _) m2 (Kd.aS q2 _))).mono ?_;rintro e w'⟨rfl,hb1⟩;have HB:=hd hb1;clear hb1
 go_wp2_with fail
 go_ret;exact⟨rfl,az (by repeat (first|exact ay _ _|refine af ?_ _)) HB.o⟩
theorem Rk(F:Nat)(p:iB->Bool)(w:World)(hG: ∀cs w,Sem.run prog (callFunc F #[.agg cs]) w= .ok (.enter F #[.agg cs]) w)(hp: ∀x cs w',Below w.heap.size w w'->fL.K w' x cs->Calls prog F #[.agg cs.toArray] w' (aB (p x) w'))(A:Option Addr)(cA:Nat)(xs:List iB)(hx:fL.C w A xs.length xs):
 Calls prog 71 #[.slice A xs.length cA,.func (.func F) #[] #[]] w (aB (xs.all p) w):=by
 have HG:=hd hG;have HP:=hd hp;have HX:=hd hx;clear hG hp hx
 go_enter func71,ntmps71
 go_wp2_with fail
 go_at_call 124
 refine(uu 125 (fun x=> !p x) _ _ (fun cs w=>enters_of func125 (by kernel_rfl) rfl _ w) (fun x cs wr hb hx=>?_) A cA xs (by repeat (first|exact HX.o|apply Kd.aS))).mono ?_
 ·exact NB F p HG.o _ wr (by have h:=(iQ hb).1 w.heap.size 0 (by simp);rw[h];simp[go_sem]) (by have:=hb.size;simp at this;omega) x cs hx (fun x cs w' hb' hx=>HP.o x cs w' (((af (ay _ _) _).trans (hb.mono (by simp))).trans (hb'.mono (by have:=hb.size;simp at this;omega))) hx)
 rintro e w'⟨rfl,hb1⟩;have HB:=hd hb1;clear hb1
 go_wp2_with fail
 go_ret;exact⟨by rw[List.all_eq_not_any_not];rfl,az (af (ay _ _) _) HB.o⟩
theorem NC(F:Nat)(p:jw->Bool)(hG: ∀cs w,Sem.run prog (callFunc F #[.agg cs]) w= .ok (.enter F #[.agg cs]) w)(g:Nat)(wr:World)(hc:wr.cell? ⟨g,0,none⟩=some (.func (.func F) #[] #[]))(hg:g<wr.heap.size)(x:jw)(cs:List Value)(hx:jQ.K wr x cs)(hp: ∀x cs w',Below wr.heap.size wr w'->jQ.K w' x cs->Calls prog F #[.agg cs.toArray] w' (aB (p x) w')):
 Calls prog 130 #[.agg cs.toArray,.pointer (some ⟨g,0,none⟩)] wr (aB (!p x) wr):=by
 obtain rfl:=vk hx;have HG:=hd hG;have HP:=hd hp;clear hG hp hx
 go_enter func130,ntmps130
 go_wp2_with fail
 rw[HG.o,Oper.upon_enter];refine(HP.o x _ _ (by repeat (first|exact ay _ _|refine af ?_ _)) (CE _ x)).mono ?_;rintro e w'⟨rfl,hb1⟩;have HB:=hd hb1;clear hb1
 go_wp2_with fail
 go_ret;exact⟨rfl,az (by repeat (first|exact ay _ _|refine af ?_ _)) HB.o⟩
theorem Rl(F:Nat)(p:jw->Bool)(w:World)(hG: ∀cs w,Sem.run prog (callFunc F #[.agg cs]) w= .ok (.enter F #[.agg cs]) w)(hp: ∀x cs w',Below w.heap.size w w'->jQ.K w' x cs->Calls prog F #[.agg cs.toArray] w' (aB (p x) w'))(A:Option Addr)(cA:Nat)(xs:List jw)(hx:jQ.C w A xs.length xs):
 Calls prog 73 #[.slice A xs.length cA,.func (.func F) #[] #[]] w (aB (xs.all p) w):=by
 have HG:=hd hG;have HP:=hd hp;have HX:=hd hx;clear hG hp hx
 go_enter func73,ntmps73
 go_wp2_with fail
 go_at_call 129
 refine(uv 130 (fun x=> !p x) _ _ (fun cs w=>enters_of func130 (by kernel_rfl) rfl _ w) (fun x cs wr hb hx=>?_) A cA xs (by repeat (first|exact HX.o|apply Kd.aS))).mono ?_
 ·exact NC F p HG.o _ wr (by have h:=(iQ hb).1 w.heap.size 0 (by simp);rw[h];simp[go_sem]) (by have:=hb.size;simp at this;omega) x cs hx (fun x cs w' hb' hx=>HP.o x cs w' (((af (ay _ _) _).trans (hb.mono (by simp))).trans (hb'.mono (by have:=hb.size;simp at this;omega))) hx)
 rintro e w'⟨rfl,hb1⟩;have HB:=hd hb1;clear hb1
 go_wp2_with fail
 go_ret;exact⟨by rw[List.all_eq_not_any_not];rfl,az (af (ay _ _) _) HB.o⟩
theorem Kw(F:Nat)(p:dV->Bool)(hG: ∀cs w,Sem.run prog (callFunc F #[.agg cs]) w= .ok (.enter F #[.agg cs]) w)(g:Nat)(wr:World)(hc:wr.cell? ⟨g,0,none⟩=some (.func (.func F) #[] #[]))(hg:g<wr.heap.size)(x:dV)(cs:List Value)(hx:eE.K wr x cs)(hp: ∀x cs w',Below wr.heap.size wr w'->eE.K w' x cs->Calls prog F #[.agg cs.toArray] w' (aB (p x) w')):
 Calls prog 132 #[.agg cs.toArray,.pointer (some ⟨g,0,none⟩)] wr (aB (!p x) wr):=by
 obtain rfl:=sK hx;have HG:=hd hG;have HP:=hd hp;clear hG hp hx
 go_enter func132,ntmps132
 go_wp2_with fail
 rw[HG.o,Oper.upon_enter];refine(HP.o x _ _ (by repeat (first|exact ay _ _|refine af ?_ _)) (lK _ x)).mono ?_;rintro e w'⟨rfl,hb1⟩;have HB:=hd hb1;clear hb1
 go_wp2_with fail
 go_ret;exact⟨rfl,az (by repeat (first|exact ay _ _|refine af ?_ _)) HB.o⟩
theorem ND(F:Nat)(p:dV->Bool)(w:World)(hG: ∀cs w,Sem.run prog (callFunc F #[.agg cs]) w= .ok (.enter F #[.agg cs]) w)(hp: ∀x cs w',Below w.heap.size w w'->eE.K w' x cs->Calls prog F #[.agg cs.toArray] w' (aB (p x) w'))(A:Option Addr)(cA:Nat)(xs:List dV)(hx:eE.C w A xs.length xs):
 Calls prog 75 #[.slice A xs.length cA,.func (.func F) #[] #[]] w (aB (xs.all p) w):=by
 have HG:=hd hG;have HP:=hd hp;have HX:=hd hx;clear hG hp hx
 go_enter func75,ntmps75
 go_wp2_with fail
 go_at_call 131
 refine(sU 132 (fun x=> !p x) _ _ (fun cs w=>enters_of func132 (by kernel_rfl) rfl _ w) (fun x cs wr hb hx=>?_) A cA xs (by repeat (first|exact HX.o|apply Kd.aS))).mono ?_
 ·exact Kw F p HG.o _ wr (by have h:=(iQ hb).1 w.heap.size 0 (by simp);rw[h];simp[go_sem]) (by have:=hb.size;simp at this;omega) x cs hx (fun x cs w' hb' hx=>HP.o x cs w' (((af (ay _ _) _).trans (hb.mono (by simp))).trans (hb'.mono (by have:=hb.size;simp at this;omega))) hx)
 rintro e w'⟨rfl,hb1⟩;have HB:=hd hb1;clear hb1
 go_wp2_with fail
 go_ret;exact⟨by rw[List.all_eq_not_any_not];rfl,az (af (ay _ _) _) HB.o⟩
theorem Ky(F:Nat)(p:eF->Bool)(hG: ∀cs w,Sem.run prog (callFunc F #[.agg cs]) w= .ok (.enter F #[.agg cs]) w)(g:Nat)(wr:World)(hc:wr.cell? ⟨g,0,none⟩=some (.func (.func F) #[] #[]))(hg:g<wr.heap.size)(x:eF)(cs:List Value)(hx:fM.K wr x cs)(hp: ∀x cs w',Below wr.heap.size wr w'->fM.K w' x cs->Calls prog F #[.agg cs.toArray] w' (aB (p x) w')):
 Calls prog 136 #[.agg cs.toArray,.pointer (some ⟨g,0,none⟩)] wr (aB (!p x) wr):=by
 obtain⟨A3,c3,rfl,m3,q3⟩:=sL hx;have HG:=hd hG;have HP:=hd hp;clear hG hp hx
 go_enter func136,ntmps136
 go_wp2_with fail
 rw[HG.o,Oper.upon_enter];refine(HP.o x _ _ (by repeat (first|exact ay _ _|refine af ?_ _)) (qI _ x m3 (Kd.aS q3 _))).mono ?_;rintro e w'⟨rfl,hb1⟩;have HB:=hd hb1;clear hb1
 go_wp2_with fail
 go_ret;exact⟨rfl,az (by repeat (first|exact ay _ _|refine af ?_ _)) HB.o⟩
theorem NF(F:Nat)(p:eF->Bool)(w:World)(hG: ∀cs w,Sem.run prog (callFunc F #[.agg cs]) w= .ok (.enter F #[.agg cs]) w)(hp: ∀x cs w',Below w.heap.size w w'->fM.K w' x cs->Calls prog F #[.agg cs.toArray] w' (aB (p x) w'))(A:Option Addr)(cA:Nat)(xs:List eF)(hx:fM.C w A xs.length xs):
 Calls prog 78 #[.slice A xs.length cA,.func (.func F) #[] #[]] w (aB (xs.all p) w):=by
 have HG:=hd hG;have HP:=hd hp;have HX:=hd hx;clear hG hp hx
 go_enter func78,ntmps78
 go_wp2_with fail
 go_at_call 135
 refine(sV 136 (fun x=> !p x) _ _ (fun cs w=>enters_of func136 (by kernel_rfl) rfl _ w) (fun x cs wr hb hx=>?_) A cA xs (by repeat (first|exact HX.o|apply Kd.aS))).mono ?_
 ·exact Ky F p HG.o _ wr (by have h:=(iQ hb).1 w.heap.size 0 (by simp);rw[h];simp[go_sem]) (by have:=hb.size;simp at this;omega) x cs hx (fun x cs w' hb' hx=>HP.o x cs w' (((af (ay _ _) _).trans (hb.mono (by simp))).trans (hb'.mono (by have:=hb.size;simp at this;omega))) hx)
 rintro e w'⟨rfl,hb1⟩;have HB:=hd hb1;clear hb1
 go_wp2_with fail
 go_ret;exact⟨by rw[List.all_eq_not_any_not];rfl,az (af (ay _ _) _) HB.o⟩
theorem NG(F:Nat)(p:jA->Bool)(hG: ∀cs w,Sem.run prog (callFunc F #[.agg cs]) w= .ok (.enter F #[.agg cs]) w)(g:Nat)(wr:World)(hc:wr.cell? ⟨g,0,none⟩=some (.func (.func F) #[] #[]))(hg:g<wr.heap.size)(x:jA)(cs:List Value)(hx:kH.K wr x cs)(hp: ∀x cs w',Below wr.heap.size wr w'->kH.K w' x cs->Calls prog F #[.agg cs.toArray] w' (aB (p x) w')):
 Calls prog 123 #[.agg cs.toArray,.pointer (some ⟨g,0,none⟩)] wr (aB (!p x) wr):=by
 obtain⟨A1,c1,rfl,m1,q1⟩:=vp hx;have HG:=hd hG;have HP:=hd hp;clear hG hp hx
 go_enter func123,ntmps123
 go_wp2_with fail
 rw[HG.o,Oper.upon_enter];refine(HP.o x _ _ (by repeat (first|exact ay _ _|refine af ?_ _)) (xA _ x m1 (Kd.aS q1 _))).mono ?_;rintro e w'⟨rfl,hb1⟩;have HB:=hd hb1;clear hb1
 go_wp2_with fail
 go_ret;exact⟨rfl,az (by repeat (first|exact ay _ _|refine af ?_ _)) HB.o⟩
theorem Rm(F:Nat)(p:jA->Bool)(w:World)(hG: ∀cs w,Sem.run prog (callFunc F #[.agg cs]) w= .ok (.enter F #[.agg cs]) w)(hp: ∀x cs w',Below w.heap.size w w'->kH.K w' x cs->Calls prog F #[.agg cs.toArray] w' (aB (p x) w'))(A:Option Addr)(cA:Nat)(xs:List jA)(hx:kH.C w A xs.length xs):
 Calls prog 69 #[.slice A xs.length cA,.func (.func F) #[] #[]] w (aB (xs.all p) w):=by
 have HG:=hd hG;have HP:=hd hp;have HX:=hd hx;clear hG hp hx
 go_enter func69,ntmps69
 go_wp2_with fail
 go_at_call 122
 refine(uw 123 (fun x=> !p x) _ _ (fun cs w=>enters_of func123 (by kernel_rfl) rfl _ w) (fun x cs wr hb hx=>?_) A cA xs (by repeat (first|exact HX.o|apply Kd.aS))).mono ?_
 ·exact NG F p HG.o _ wr (by have h:=(iQ hb).1 w.heap.size 0 (by simp);rw[h];simp[go_sem]) (by have:=hb.size;simp at this;omega) x cs hx (fun x cs w' hb' hx=>HP.o x cs w' (((af (ay _ _) _).trans (hb.mono (by simp))).trans (hb'.mono (by have:=hb.size;simp at this;omega))) hx)
 rintro e w'⟨rfl,hb1⟩;have HB:=hd hb1;clear hb1
 go_wp2_with fail
 go_ret;exact⟨by rw[List.all_eq_not_any_not];rfl,az (af (ay _ _) _) HB.o⟩
theorem CT(A B:Option Addr)(c d:Nat)(xs ys:List Int)(w:World)(hx:bf w A xs)(hy:bf w B ys):
 Calls prog 63 #[.agg #[.slice A xs.length c,.slice B ys.length d]] w (aB (Sp.typed ⟨xs,ys⟩) w):=by
 have HX:=hd hx;have HY:=hd hy;clear hx hy;unfold Sp.typed;dsimp only;by_cases h1:xs.length<=8
 ·have Te:decide ((xs.length:Int)<=8)=true:=by simp;omega
  rw[iz h1,Bool.true_and];by_cases h2:ys.length<=8
  ·have h2':decide ((ys.length:Int)<=8)=true:=by simp;omega
   rw[iz h2,Bool.true_and];cases t1:Sp.types xs with
   |true=>
    have T1:=hd (fun w h=>(show Calls prog 77 #[.slice A xs.length c] w fun e w'=>e= .returned (.bool true)/\w=w' from t1▸gM A c xs w h));have T2:=hd (fun w h=>(show Calls prog 77 #[.slice B ys.length d] w fun e w'=>e= .returned (.bool (Sp.types ys))/\w=w' from gM B d ys w h));clear t1
    go_enter func63,ntmps63
    go_wp2_with (first|(go_at_call 77;with_reducible refine(T1.o _ ?hc).mono ?_;(case hc=>(with_reducible repeat (first|exact HX.o|exact HY.o|apply Kd.aS|apply Kd.eL|apply Kd.jc)));rintro e w'⟨rfl,rfl⟩)|(go_at_call 77;with_reducible refine(T2.o _ ?hc).mono ?_;(case hc=>(with_reducible repeat (first|exact HX.o|exact HY.o|apply Kd.aS|apply Kd.eL|apply Kd.jc)));rintro e w'⟨rfl,rfl⟩))
    go_ret;exact⟨rfl,by repeat (first|exact ay _ _|refine af ?_ _)⟩
   |false=>
    have T1:=hd (fun w h=>(show Calls prog 77 #[.slice A xs.length c] w fun e w'=>e= .returned (.bool false)/\w=w' from t1▸gM A c xs w h));clear t1
    go_enter func63,ntmps63
    go_wp2_with (first|(go_at_call 77;with_reducible refine(T1.o _ ?hc).mono ?_;(case hc=>(with_reducible repeat (first|exact HX.o|exact HY.o|apply Kd.aS|apply Kd.eL|apply Kd.jc)));rintro e w'⟨rfl,rfl⟩))
    go_ret;exact⟨rfl,by repeat (first|exact ay _ _|refine af ?_ _)⟩
  ·have h2':decide ((ys.length:Int)<=8)=false:=by simp;omega
   rw[jP h2,Bool.false_and]
   go_enter func63,ntmps63
   go_wp2
   go_ret;exact⟨rfl,by repeat (first|exact ay _ _|refine af ?_ _)⟩
 ·have Te:decide ((xs.length:Int)<=8)=false:=by simp;omega
  rw[jP h1,Bool.false_and]
  go_enter func63,ntmps63
  go_wp2
  go_ret;exact⟨rfl,by repeat (first|exact ay _ _|refine af ?_ _)⟩
theorem vE(w:World)(g:Nat)(x:Int)(h:w.cell? ⟨g,0,none⟩=some (.int .i64 x)):bf w (some ⟨g,0,none⟩) [x]:=by
 refine Kd.kQ (h1:=fun _=>rfl) (d:=(0:Int)) (enc:=Value.int .i64) ⟨rfl,by simp,fun _=>⟨_,rfl,fun j hj=>?_⟩⟩;obtain rfl:j=0:=by simp at hj;omega
 rw[add_plain];exact h
theorem AD(x:iX)(w:World):Calls prog 65 #[.agg #[.string x.f0,.string x.f1,.int .i64 x.f2]] w (aB (Sp.imported x) w):=by
 unfold Sp.imported;cases NH:Sp.name x.f0 with
 |false=>
  have N1:=hd (fun w=>(show Calls prog 66 #[.string x.f0] w (aB false w)from NH▸gN x.f0 w));clear NH
  go_enter func65,ntmps65
  go_wp2_with (first|((go_at_call 66);(with_reducible refine(N1.o _).mono ?_);rintro e w1⟨rfl,hb1⟩;obtain⟨eA,kW⟩:=iQ hb1;have z1:w.heap.size<w1.heap.size:=(by have:=hb1.size;first|omega|(simp at this;omega));have c10:w1.cell? ⟨w.heap.size,0,none⟩=some (.string x.f0):=(eA _ _ (by first|(simp;done)|(simp;omega)|omega)).trans (by first|(simp[go_sem];done)|assumption);have c11:w1.cell? ⟨w.heap.size,1,none⟩=some (.string x.f1):=(eA _ _ (by first|(simp;done)|(simp;omega)|omega)).trans (by first|(simp[go_sem];done)|assumption);have c12:w1.cell? ⟨w.heap.size,2,none⟩=some (.int .i64 x.f2):=(eA _ _ (by first|(simp;done)|(simp;omega)|omega)).trans (by first|(simp[go_sem];done)|assumption);have bE:=hd hb1;clear hb1 eA kW))
  go_ret;exact⟨rfl,az (af (ay _ _) _) bE.o⟩
 |true=>
  cases tN2:Sp.name x.f1 with
  |false=>
   have N1:=hd (fun w=>(show Calls prog 66 #[.string x.f0] w (aB true w)from NH▸gN x.f0 w));have N2:=hd (fun w=>(show Calls prog 66 #[.string x.f1] w (aB false w)from tN2▸gN x.f1 w));clear NH tN2
   go_enter func65,ntmps65
   go_wp2_with (first|((go_at_call 66);(with_reducible refine(N1.o _).mono ?_);rintro e w1⟨rfl,hb1⟩;obtain⟨eA,kW⟩:=iQ hb1;have z1:w.heap.size<w1.heap.size:=(by have:=hb1.size;first|omega|(simp at this;omega));have c10:w1.cell? ⟨w.heap.size,0,none⟩=some (.string x.f0):=(eA _ _ (by first|(simp;done)|(simp;omega)|omega)).trans (by first|(simp[go_sem];done)|assumption);have c11:w1.cell? ⟨w.heap.size,1,none⟩=some (.string x.f1):=(eA _ _ (by first|(simp;done)|(simp;omega)|omega)).trans (by first|(simp[go_sem];done)|assumption);have c12:w1.cell? ⟨w.heap.size,2,none⟩=some (.int .i64 x.f2):=(eA _ _ (by first|(simp;done)|(simp;omega)|omega)).trans (by first|(simp[go_sem];done)|assumption);have bE:=hd hb1;clear hb1 eA kW)|((go_at_call 66);(with_reducible refine(N2.o _).mono ?_);rintro e w2⟨rfl,hb2⟩;obtain⟨eA,kW⟩:=iQ hb2;have z2:w.heap.size<w2.heap.size:=(by have:=hb2.size;first|omega|(simp at this;omega));have c20:w2.cell? ⟨w.heap.size,0,none⟩=some (.string x.f0):=(eA _ _ (by first|(simp;done)|(simp;omega)|omega)).trans (by first|(simp[go_sem];done)|assumption);have S7:w2.cell? ⟨w.heap.size,1,none⟩=some (.string x.f1):=(eA _ _ (by first|(simp;done)|(simp;omega)|omega)).trans (by first|(simp[go_sem];done)|assumption);have Wd:w2.cell? ⟨w.heap.size,2,none⟩=some (.int .i64 x.f2):=(eA _ _ (by first|(simp;done)|(simp;omega)|omega)).trans (by first|(simp[go_sem];done)|assumption);have bw:=hd hb2;clear hb2 eA kW))
   go_ret;exact⟨rfl,az (az (af (ay _ _) _) bE.o) bw.o⟩
  |true=>
   have N1:=hd (fun w=>(show Calls prog 66 #[.string x.f0] w (aB true w)from NH▸gN x.f0 w));have N2:=hd (fun w=>(show Calls prog 66 #[.string x.f1] w (aB true w)from tN2▸gN x.f1 w));have N3:=hd (fun w=>(show Calls prog 67 #[.int .i64 x.f2] w (fun e w'=>e= .returned (.bool (Sp.index x.f2))/\w=w')from fZ x.f2 w));clear NH tN2
   go_enter func65,ntmps65
   go_wp2_with (first|((go_at_call 66);(with_reducible refine(N1.o _).mono ?_);rintro e w1⟨rfl,hb1⟩;obtain⟨eA,kW⟩:=iQ hb1;have z1:w.heap.size<w1.heap.size:=(by have:=hb1.size;first|omega|(simp at this;omega));have c10:w1.cell? ⟨w.heap.size,0,none⟩=some (.string x.f0):=(eA _ _ (by first|(simp;done)|(simp;omega)|omega)).trans (by first|(simp[go_sem];done)|assumption);have c11:w1.cell? ⟨w.heap.size,1,none⟩=some (.string x.f1):=(eA _ _ (by first|(simp;done)|(simp;omega)|omega)).trans (by first|(simp[go_sem];done)|assumption);have c12:w1.cell? ⟨w.heap.size,2,none⟩=some (.int .i64 x.f2):=(eA _ _ (by first|(simp;done)|(simp;omega)|omega)).trans (by first|(simp[go_sem];done)|assumption);have bE:=hd hb1;clear hb1 eA kW)|((go_at_call 66);(with_reducible refine(N2.o _).mono ?_);rintro e w2⟨rfl,hb2⟩;obtain⟨eA,kW⟩:=iQ hb2;have z2:w.heap.size<w2.heap.size:=(by have:=hb2.size;first|omega|(simp at this;omega));have c20:w2.cell? ⟨w.heap.size,0,none⟩=some (.string x.f0):=(eA _ _ (by first|(simp;done)|(simp;omega)|omega)).trans (by first|(simp[go_sem];done)|assumption);have S7:w2.cell? ⟨w.heap.size,1,none⟩=some (.string x.f1):=(eA _ _ (by first|(simp;done)|(simp;omega)|omega)).trans (by first|(simp[go_sem];done)|assumption);have Wd:w2.cell? ⟨w.heap.size,2,none⟩=some (.int .i64 x.f2):=(eA _ _ (by first|(simp;done)|(simp;omega)|omega)).trans (by first|(simp[go_sem];done)|assumption);have bw:=hd hb2;clear hb2 eA kW)|((go_at_call 67);(with_reducible refine(N3.o _).mono ?_);rintro e w'⟨rfl,rfl⟩))
   go_ret;exact⟨rfl,az (az (af (ay _ _) _) bE.o) bw.o⟩
theorem AE(x:jA)(A:Option Addr)(c:Nat)(w:World):Calls prog 70 #[.agg #[.string x.f0,.slice A x.f1.length c]] w (aB (Sp.custom x) w):=by
 unfold Sp.custom;cases NH:Sp.name x.f0 with
 |false=>
  have N1:=hd (fun w=>(show Calls prog 66 #[.string x.f0] w (aB false w)from NH▸gN x.f0 w));clear NH
  go_enter func70,ntmps70
  go_wp2_with (first|((go_at_call 66);(with_reducible refine(N1.o _).mono ?_);rintro e w1⟨rfl,hb1⟩;obtain⟨eA,kW⟩:=iQ hb1;have z1:w.heap.size<w1.heap.size:=(by have:=hb1.size;first|omega|(simp at this;omega));have c10:w1.cell? ⟨w.heap.size,0,none⟩=some (.string x.f0):=(eA _ _ (by first|(simp;done)|(simp;omega)|omega)).trans (by first|(simp[go_sem];done)|assumption);have c11:w1.cell? ⟨w.heap.size,1,none⟩=some (.slice A x.f1.length c):=(eA _ _ (by first|(simp;done)|(simp;omega)|omega)).trans (by first|(simp[go_sem];done)|assumption);have bE:=hd hb1;clear hb1 eA kW))
  go_ret;exact⟨rfl,az (af (ay _ _) _) bE.o⟩
 |true=>
  have N1:=hd (fun w=>(show Calls prog 66 #[.string x.f0] w (aB true w)from NH▸gN x.f0 w));clear NH
  go_enter func70,ntmps70
  go_wp2_with (first|((go_at_call 66);(with_reducible refine(N1.o _).mono ?_);rintro e w1⟨rfl,hb1⟩;obtain⟨eA,kW⟩:=iQ hb1;have z1:w.heap.size<w1.heap.size:=(by have:=hb1.size;first|omega|(simp at this;omega));have c10:w1.cell? ⟨w.heap.size,0,none⟩=some (.string x.f0):=(eA _ _ (by first|(simp;done)|(simp;omega)|omega)).trans (by first|(simp[go_sem];done)|assumption);have c11:w1.cell? ⟨w.heap.size,1,none⟩=some (.slice A x.f1.length c):=(eA _ _ (by first|(simp;done)|(simp;omega)|omega)).trans (by first|(simp[go_sem];done)|assumption);have bE:=hd hb1;clear hb1 eA kW))
  go_ret;refine⟨congrArg (fun b=>Ending.returned (.bool b)) ?_,az (af (ay _ _) _) bE.o⟩
  first|rfl|(rw[Bool.eq_iff_iff];simp;done)|(rw[Bool.eq_iff_iff];simp;omega)
theorem AG(x:jw)(w:World):Calls prog 74 #[.agg #[.int .i64 x.f0,.int .i64 x.f1]] w (aB (Sp.memory x) w):=by
 unfold Sp.memory;by_cases h1:0<=x.f0<;>by_cases h2:x.f0<=x.f1
 all_goals
  go_enter func74,ntmps74
  go_wp2
  go_ret;refine⟨congrArg (fun b=>Ending.returned (.bool b)) ?_,af (ay _ _) _⟩
  first|rfl|(simp[h1,h2];done)|(rw[Bool.eq_iff_iff];simp[h1,h2];done)|(rw[Bool.eq_iff_iff];simp[h1,h2];omega)
theorem AH(x:dV)(w:World):Calls prog 76 #[.agg #[.int .i64 x.f0,.bool x.f1,.int .u64 x.f2]] w (aB (Sp.jG x) w):=by
 unfold Sp.jG;cases t1:Sp.types [x.f0]with
 |false=>
  have T1:=hd (fun w A (h:bf w A [x.f0])=>(show Calls prog 77 #[.slice A 1 1] w fun e w'=>e= .returned (.bool false)/\w=w' from t1▸gM A 1 [x.f0] w h));clear t1
  go_enter func76,ntmps76
  go_wp2_with (first|((go_at_call 77);(refine(T1.o _ _ ?hc).mono ?_);(case hc=>(refine vE _ _ _ ?_;simp[go_sem];done));rintro e w'⟨rfl,rfl⟩))
  go_ret;exact⟨rfl,af (af (ay _ _) _) _⟩
 |true=>
  by_cases h1:x.f0=127
  ·have Te:(x.f0 !=127)=false:=by simp[h1]
   have H1:=hd h1;clear h1;have T1:=hd (fun w A (h:bf w A [x.f0])=>(show Calls prog 77 #[.slice A 1 1] w fun e w'=>e= .returned (.bool true)/\w=w' from t1▸gM A 1 [x.f0] w h));clear t1
   go_enter func76,ntmps76
   go_wp2_with (first|((go_at_call 77);(refine(T1.o _ _ ?hc).mono ?_);(case hc=>(refine vE _ _ _ ?_;simp[go_sem];done));rintro e w'⟨rfl,rfl⟩))
   go_ret;refine⟨congrArg (fun b=>Ending.returned (.bool b)) ?_,af (af (ay _ _) _) _⟩;have h1:=H1.o
   first|rfl|(simp[h1];done)|(rw[Bool.eq_iff_iff];simp[h1];done)|(rw[Bool.eq_iff_iff];simp[h1];omega)
  ·have Te:(x.f0 !=127)=true:=by simp[h1]
   have H1:=hd h1;clear h1;have T1:=hd (fun w A (h:bf w A [x.f0])=>(show Calls prog 77 #[.slice A 1 1] w fun e w'=>e= .returned (.bool true)/\w=w' from t1▸gM A 1 [x.f0] w h));clear t1
   go_enter func76,ntmps76
   go_wp2_with (first|((go_at_call 77);(refine(T1.o _ _ ?hc).mono ?_);(case hc=>(refine vE _ _ _ ?_;simp[go_sem];done));rintro e w'⟨rfl,rfl⟩))
   go_ret;refine⟨congrArg (fun b=>Ending.returned (.bool b)) ?_,af (af (ay _ _) _) _⟩;have h1:=H1.o
   first|rfl|(simp[h1];done)|(rw[Bool.eq_iff_iff];simp[h1];done)|(rw[Bool.eq_iff_iff];simp[h1];omega)
theorem Uv(x:aW)(cs:List Value)(w:World)(h:bW.K w x cs):Calls prog 127 #[.agg cs.toArray] w (aB (!Sp.fD x) w):=by
 obtain⟨A4,c4,rfl,l4,g4⟩:=mX h;have HX:=hd g4;clear g4 h
 go_enter func127,ntmps127
 go_wp2_with fail
 go_at_call 128
 refine(EP x A4 c4 _ (by repeat (first|exact HX.o|apply Kd.aS))).mono ?_;rintro e w'⟨rfl,hb1⟩;have HB:=hd hb1;clear hb1
 go_wp2_with fail
 go_ret;exact⟨rfl,az (af (ay _ _) _) HB.o⟩
theorem AJ(cs:Array Value)(w:World):Sem.run prog (callFunc 127 #[.agg cs]) w= .ok (.enter 127 #[.agg cs]) w:=enters_of func127 (by kernel_rfl) rfl _ w
theorem CU(x:Int)(xs:List Int)(ys:List aW)(A B:Option Addr)(c d:Nat)(w:World)(hx:bf w A xs)(hy:bW.C w B ys.length ys):
 Calls prog 72 #[.agg #[.int .i64 x,.slice A xs.length c,.slice B ys.length d]] w (aB (Sp.qO ⟨x,xs,ys⟩) w):=by
 have HX:=hd hx;have HY:=hd hy;clear hx hy;unfold Sp.qO;dsimp only;cases t1:Sp.index x with
 |false=>
  have I1:=hd (fun w=>(show Calls prog 67 #[.int .i64 x] w (fun e w'=>e= .returned (.bool false)/\w=w')from t1▸fZ x w));clear t1
  go_enter func72,ntmps72
  go_wp2_with (first|(go_at_call 67;with_reducible refine(I1.o _).mono ?_;rintro e w'⟨rfl,rfl⟩))
  go_ret;exact⟨rfl,af (ay _ _) _⟩
 |true=>
  have I1:=hd (fun w=>(show Calls prog 67 #[.int .i64 x] w (fun e w'=>e= .returned (.bool true)/\w=w')from t1▸fZ x w));clear t1;rw[Bool.true_and];by_cases h1:xs.length<=256
  ·have Te:decide ((xs.length:Int)<=256)=true:=by simp;omega
   rw[iz h1,Bool.true_and];cases t2:Sp.types xs with
   |false=>
    have T1:=hd (fun w h=>(show Calls prog 77 #[.slice A xs.length c] w (fun e w'=>e= .returned (.bool false)/\w=w')from t2▸gM A c xs w h));clear t2
    go_enter func72,ntmps72
    go_wp2_with (first|(go_at_call 67;with_reducible refine(I1.o _).mono ?_;rintro e w'⟨rfl,rfl⟩)|(go_at_call 77;with_reducible refine(T1.o _ ?hc).mono ?_;(case hc=>(with_reducible repeat (first|exact HX.o|exact HY.o|apply Kd.aS|apply Kd.eL|apply Kd.jc)));rintro e w'⟨rfl,rfl⟩))
    go_ret;exact⟨rfl,af (ay _ _) _⟩
   |true=>
    have T1:=hd (fun w h=>(show Calls prog 77 #[.slice A xs.length c] w (fun e w'=>e= .returned (.bool true)/\w=w')from t2▸gM A c xs w h));clear t2;rw[Bool.true_and];by_cases h2:ys.length<=65536
    ·have h2':decide ((ys.length:Int)<=65536)=true:=by simp;omega
     rw[iz h2,Bool.true_and]
     go_enter func72,ntmps72
     go_wp2_with (first|(go_at_call 67;with_reducible refine(I1.o _).mono ?_;rintro e w'⟨rfl,rfl⟩)|(go_at_call 77;with_reducible refine(T1.o _ ?hc).mono ?_;(case hc=>(with_reducible repeat (first|exact HX.o|exact HY.o|apply Kd.aS|apply Kd.eL|apply Kd.jc)));rintro e w'⟨rfl,rfl⟩)|(go_at_call 126;(refine(uq 127 (fun i=> !Sp.fD i) AJ (fun x cs w h=>Uv x cs w h) B d ys _ ?hc).mono ?_);(case hc=>(with_reducible repeat (first|exact HX.o|exact HY.o|apply Kd.aS|apply Kd.eL|apply Kd.jc)));rintro e w'⟨rfl,hb⟩))
     go_ret;exact⟨rfl,az (af (ay _ _) _) hb⟩
    ·have h2':decide ((ys.length:Int)<=65536)=false:=by simp;omega
     rw[jP h2,Bool.false_and]
     go_enter func72,ntmps72
     go_wp2_with (first|(go_at_call 67;with_reducible refine(I1.o _).mono ?_;rintro e w'⟨rfl,rfl⟩)|(go_at_call 77;with_reducible refine(T1.o _ ?hc).mono ?_;(case hc=>(with_reducible repeat (first|exact HX.o|exact HY.o|apply Kd.aS|apply Kd.eL|apply Kd.jc)));rintro e w'⟨rfl,rfl⟩))
     go_ret;exact⟨rfl,af (ay _ _) _⟩
  ·have Te:decide ((xs.length:Int)<=256)=false:=by simp;omega
   rw[jP h1,Bool.false_and]
   go_enter func72,ntmps72
   go_wp2_with (first|(go_at_call 67;with_reducible refine(I1.o _).mono ?_;rintro e w'⟨rfl,rfl⟩))
   go_ret;exact⟨rfl,af (ay _ _) _⟩
theorem ER(a b:Int)(xs:List Int)(B:Option Addr)(d:Nat)(w:World)(act:Bool):
 Calls prog 79 #[.agg #[.bool act,.int .i64 a,.int .i64 b,.slice B xs.length d]] w (aB (Sp.laid ⟨act,a,b,xs⟩) w):=by
 unfold Sp.laid;dsimp only;cases act with
 |true=>
  rw[if_pos rfl];cases t1:Sp.within a 0 3 with
  |false=>
   have W1:=hd (fun w=>(show Calls prog 137 #[.int .i64 a,.int .i64 4] w (fun e w'=>e= .returned (.bool false)/\w=w')from t1▸aT a 4 w));clear t1;cases t2:Sp.index b with
   |false=>
    have I1:=hd (fun w=>(show Calls prog 67 #[.int .i64 b] w (fun e w'=>e= .returned (.bool false)/\w=w')from t2▸fZ b w));clear t2;by_cases h1:a=0<;>by_cases h2:b=0
    all_goals
     have H1:=hd h1;have H2:=hd h2
     first|have g1:(a==0)=true:=(by simpa using h1)|have g1:(a==0)=false:=(by simpa using h1)
     first|have g2:(b==0)=true:=(by simpa using h2)|have g2:(b==0)=false:=(by simpa using h2)
     clear h1 h2
     go_enter func79,ntmps79
     go_wp2_with (first|(go_at_call 137;with_reducible refine(W1.o _).mono ?_;rintro e w'⟨rfl,rfl⟩)|(go_at_call 67;with_reducible refine(I1.o _).mono ?_;rintro e w'⟨rfl,rfl⟩))
     all_goals
      go_ret;refine⟨congrArg (fun b=>Ending.returned (.bool b)) ?_,af (ay _ _) _⟩
      first|rfl|(simp;done)|(rw[Bool.eq_iff_iff];simp;done)|(rw[Bool.eq_iff_iff];simp;omega)
   |true=>
    have I1:=hd (fun w=>(show Calls prog 67 #[.int .i64 b] w (fun e w'=>e= .returned (.bool true)/\w=w')from t2▸fZ b w));clear t2;by_cases h1:a=0<;>by_cases h2:b=0
    all_goals
     have H1:=hd h1;have H2:=hd h2
     first|have g1:(a==0)=true:=(by simpa using h1)|have g1:(a==0)=false:=(by simpa using h1)
     first|have g2:(b==0)=true:=(by simpa using h2)|have g2:(b==0)=false:=(by simpa using h2)
     clear h1 h2
     go_enter func79,ntmps79
     go_wp2_with (first|(go_at_call 137;with_reducible refine(W1.o _).mono ?_;rintro e w'⟨rfl,rfl⟩)|(go_at_call 67;with_reducible refine(I1.o _).mono ?_;rintro e w'⟨rfl,rfl⟩))
     all_goals
      go_ret;refine⟨congrArg (fun b=>Ending.returned (.bool b)) ?_,af (ay _ _) _⟩
      first|rfl|(simp;done)|(rw[Bool.eq_iff_iff];simp;done)|(rw[Bool.eq_iff_iff];simp;omega)
  |true=>
   have W1:=hd (fun w=>(show Calls prog 137 #[.int .i64 a,.int .i64 4] w (fun e w'=>e= .returned (.bool true)/\w=w')from t1▸aT a 4 w));clear t1;cases t2:Sp.index b with
   |false=>
    have I1:=hd (fun w=>(show Calls prog 67 #[.int .i64 b] w (fun e w'=>e= .returned (.bool false)/\w=w')from t2▸fZ b w));clear t2;by_cases h1:a=0<;>by_cases h2:b=0
    all_goals
     have H1:=hd h1;have H2:=hd h2
     first|have g1:(a==0)=true:=(by simpa using h1)|have g1:(a==0)=false:=(by simpa using h1)
     first|have g2:(b==0)=true:=(by simpa using h2)|have g2:(b==0)=false:=(by simpa using h2)
     clear h1 h2
     go_enter func79,ntmps79
     go_wp2_with (first|(go_at_call 137;with_reducible refine(W1.o _).mono ?_;rintro e w'⟨rfl,rfl⟩)|(go_at_call 67;with_reducible refine(I1.o _).mono ?_;rintro e w'⟨rfl,rfl⟩))
     all_goals
      go_ret;refine⟨congrArg (fun b=>Ending.returned (.bool b)) ?_,af (ay _ _) _⟩
      first|rfl|(simp;done)|(rw[Bool.eq_iff_iff];simp;done)|(rw[Bool.eq_iff_iff];simp;omega)
   |true=>
    have I1:=hd (fun w=>(show Calls prog 67 #[.int .i64 b] w (fun e w'=>e= .returned (.bool true)/\w=w')from t2▸fZ b w));clear t2;by_cases h1:a=0<;>by_cases h2:b=0
    all_goals
     have H1:=hd h1;have H2:=hd h2
     first|have g1:(a==0)=true:=(by simpa using h1)|have g1:(a==0)=false:=(by simpa using h1)
     first|have g2:(b==0)=true:=(by simpa using h2)|have g2:(b==0)=false:=(by simpa using h2)
     clear h1 h2
     go_enter func79,ntmps79
     go_wp2_with (first|(go_at_call 137;with_reducible refine(W1.o _).mono ?_;rintro e w'⟨rfl,rfl⟩)|(go_at_call 67;with_reducible refine(I1.o _).mono ?_;rintro e w'⟨rfl,rfl⟩))
     all_goals
      go_ret;refine⟨congrArg (fun b=>Ending.returned (.bool b)) ?_,af (ay _ _) _⟩
      first|rfl|(simp;done)|(rw[Bool.eq_iff_iff];simp;done)|(rw[Bool.eq_iff_iff];simp;omega)
 |false=>
  rw[if_neg (by simp)];by_cases h1:a=0<;>by_cases h2:b=0
  all_goals
   have H1:=hd h1;have H2:=hd h2
   first|have g1:(a==0)=true:=(by simpa using h1)|have g1:(a==0)=false:=(by simpa using h1)
   first|have g2:(b==0)=true:=(by simpa using h2)|have g2:(b==0)=false:=(by simpa using h2)
   clear h1 h2
   go_enter func79,ntmps79
   go_wp2
   all_goals
    go_ret;refine⟨congrArg (fun b=>Ending.returned (.bool b)) ?_,af (ay _ _) _⟩;have h1:=H1.o;have h2:=H2.o
    first|rfl|(simp[h1,h2];done)|(rw[Bool.eq_iff_iff];simp[h1,h2];done)|(rw[Bool.eq_iff_iff];simp[h1,h2];omega)
end Go.Proofs.YthehihjcpiadgaaGreat
namespace Go.Proofs.YthehihjcpiadgaaGreat
open Go.RowKit Go.Proofs.Wz.PrintWords Go.Maps Go.WideMaps
abbrev pq:Keyed prog 9:=string_keyed underlying9
theorem ux(w:World):(zeroValue 3).run prog w= .ok (.int .i64 0) w:=by kernel_rfl
def xS(D:DataW Unit)(seen:List (List UInt8)):Prop:=IsMap D/\ ∀s:List UInt8,D.atKey (.string s) (.lit (.int .i64 0))= .lit (.int .i64 (if s∈seen then 1 else 0))
theorem ES:xS (.map []) []:=⟨isMap_empty,fun s=>rfl⟩
theorem wK{D:DataW Unit}{seen:List (List UInt8)}(h:xS D seen)(s:List UInt8):xS (D.put (.string s) (.lit (.int .i64 1))) (s::seen):=by
 refine⟨h.1.put _ _,fun s'=>?_⟩;by_cases e:s'=s
 ·subst e
  rw[atKey_put_same h.1 (by trivial)];simp
 ·rw[atKey_put_other (fun he=>e (by injection he)),h.2 s']
  have:(s'∈s::seen)=(s'∈seen):=by simp[e]
  simp only[this]
def seenAt(xs:List jg)(k:Nat):List (List UInt8):=((xs.take k).map (fun x=>x.f0.data.toList)).reverse
theorem wL{xs:List jg}{k:Nat}(h:k<xs.length):seenAt xs (k+1)=(cu xs k).f0.data.toList::seenAt xs k:=by
 unfold seenAt;rw[List.take_succ_eq_append_getElem h,List.map_append,List.reverse_append];simp[cu,gq,h]
theorem AK{xs:List jg}{k:Nat}(h:k<xs.length):Sp.exported (seenAt xs k) (xs.drop k)=(!decide ((cu xs k).f0.data.toList∈seenAt xs k)&&Sp.name (cu xs k).f0&&decide ((cu xs k).f1=0\/(cu xs k).f1=2\/(cu xs k).f1=3)&&Sp.index (cu xs k).f2&&Sp.exported (seenAt xs (k+1)) (xs.drop (k+1))):=by
 rw[List.drop_eq_getElem_cons h,wL h];have e:cu xs k=xs[k]:=by simp[cu,gq,h]
 rw[e];rfl
theorem CV(l:List (List UInt8))(xs:List jg):Sp.exported l (xs.drop xs.length)=true:=by
 rw[List.drop_length];rfl
theorem CW(x:Int):((x==0)=true/\decide (x=0\/x=2\/x=3)=true)\/((x==0)=false/\(x==2)=true/\decide (x=0\/x=2\/x=3)=true)\/((x==0)=false/\(x==2)=false/\(x==3)=true/\decide (x=0\/x=2\/x=3)=true)\/((x==0)=false/\(x==2)=false/\(x==3)=false/\decide (x=0\/x=2\/x=3)=false):=by
 simp only[beq_iff_eq,beq_eq_false_iff_ne,decide_eq_true_eq,iy,ne_eq];omega
theorem qR{w w':World}(h:Below w.heap.size w w'):w.grownBy w' none:=⟨h.os,h.tape,h.output,h.size,fun i hi _=>h.block i hi⟩
theorem xo(A:Option Addr)(cA:Nat)(xs:List jg)(w:World)(hx:lW.C w A xs.length xs)(hsz: ∀i:Int,(cu xs i).f0.size<=maxLen)(hlen:xs.length<maxLen):
 Calls prog 68 #[.slice A xs.length cA] w (aB (Sp.exported [] xs) w):=by
 have mx:=Kd.qy hx;have HX:=hd hx;have HZ:=hd hsz;have HL:=hd hlen;clear hx hsz hlen;have Jn:= @run_makeMap prog
 go_enter func68,ntmps68
 go_wp2
 go_loopw [10] (fun i wr=> ∃(k:Nat) (D:DataW Unit),k<=xs.length/\i= .int .i64 k/\Hid (wr.ownsMap prog 9 (plainElem prog 3) w.heap.size k D)/\Hid (xS D (seenAt xs k))/\Hid (Sp.exported [] xs=Sp.exported (seenAt xs k) (xs.drop k))/\Hid (Below w.heap.size w wr)) (fun i _=>xs.length-(intOf i).toNat)
 case atStart=>exact⟨0,.map [],by omega,rfl,hd (World.ownsMap_made _ _ _ _),hd ES,hd rfl,hd (af (ay _ _) _)⟩
 case round=>
  obtain⟨k,D,hk,rfl,HO,HN,HE,HB⟩:=hrel;rename_i wr _;by_cases bI:k<xs.length
  ·obtain⟨ad,rfl,e0,e1,e2⟩:=CG (Kd.bJ HX.o HB.o) (k:Int) (by omega) (by omega)
   rw[dF]at e0 e1 e2;have hst:=AK bI;have hsc:=wL bI;have hz:=HZ.o (k:Int);have hkey:=keyOf_string_mk underlying9 hz;obtain⟨x,hxe⟩:=ex (cu xs (k:Int));rw[<-hxe]at e0 e1 e2 hst hsc hz hkey;clear hxe;have hE:=HE.o;have XP:=hd (hE.trans hst);have XQ:=hd hsc;clear hE hst hsc;have hown:=HO.o;obtain⟨x0,x1,x2⟩:=x;dsimp only at e0 e1 e2 hz hkey XP XQ;have hown1:(wr.alloc (.cells #[.string x0,.int .i64 x1,.int .i64 x2] 86)).ownsMap prog 9 (plainElem prog 3) w.heap.size k D:=hown.alloc _;have hne:wr.heap.size≠w.heap.size:=by have:=hown.lt;omega
   clear hown;obtain⟨c,hrun,hat,_⟩:=hown1.lookup_int pq underlying162 underlying3 (ux _) hkey
   have hcv:c=if x0.data.toList∈seenAt xs k then 1 else 0:=by
    have:=hat.symm.trans (HN.o.2 x0.data.toList);injection this with this;injection this with _ this
   by_cases hs:x0.data.toList∈seenAt xs k
   ·rw[if_pos hs]at hcv
    subst hcv;have hE:=XP.out;rw[iz hs]at hE;simp only[Bool.not_true,Bool.false_and]at hE;have G8:=hd hE;clear hE XP hs;rcases CW x1 with⟨g0,hk4⟩|⟨g0,g1,hk4⟩|⟨g0,g1,g2,hk4⟩|⟨g0,g1,g2,hk4⟩
    all_goals
     clear hk4
     go_wp2_with (first|(at_mapUpdate;refine wpList_mapUpdate_own _ rfl _ _ _ 162 rfl 9 3 pq underlying162 _ w.heap.size k _ rfl hown1 (by have:=HL.o;omega) _ _ _ rfl rfl hkey _ [] (plainElem_int underlying3 (by decide)) ?_)|go_in)
     intro w1 hown2 fE;have d0:w1.cell? ⟨wr.heap.size,0,none⟩=some (.string x0):=fE.cell (a:=⟨wr.heap.size,0,none⟩) (by simp[go_sem]) (by intro he;injection he with he;exact hne he);have d1:w1.cell? ⟨wr.heap.size,1,none⟩=some (.int .i64 x1):=fE.cell (a:=⟨wr.heap.size,1,none⟩) (by simp[go_sem]) (by intro he;injection he with he;exact hne he);have d2:w1.cell? ⟨wr.heap.size,2,none⟩=some (.int .i64 x2):=fE.cell (a:=⟨wr.heap.size,2,none⟩) (by simp[go_sem]) (by intro he;injection he with he;exact hne he);obtain⟨c2,NI,yZ,_⟩:=hown2.lookup_int pq underlying162 underlying3 (ux _) hkey;have hc2:=yZ.symm.trans (atKey_put_same HN.o.1 (by trivial) _ _);obtain rfl:c2=2:=by injection hc2 with hc2;injection hc2
     have Uw:=hd hown2;have bw:=hd ((af HB.o _).grown fE (by have:=HB.o.size;simp;omega) (fun j hj=>by cases hj;exact aU _));have z1:wr.heap.size<w1.heap.size:=by have:=fE.size;simp at this;omega
     clear hat yZ hc2 hown1 hown2 fE hrun hne
     go_wp2_with fail
     go_ret;exact⟨by rw[G8.o];rfl,bw.o⟩
   ·rw[if_neg hs]at hcv
    subst hcv;have hE:=XP.out;rw[jP hs]at hE;simp only[Bool.not_false,Bool.true_and]at hE;have G8:=hd hE;clear hE XP hs;cases t1:Sp.name x0 with
    |false=>
     have N1:=hd (fun w=>(show Calls prog 66 #[.string x0] w (aB false w)from t1▸gN x0 w));have hE:=G8.o;rw[t1]at hE;simp only[Bool.false_and]at hE;have Rn:=hd hE;clear hE t1 G8;rcases CW x1 with⟨g0,hk4⟩|⟨g0,g1,hk4⟩|⟨g0,g1,g2,hk4⟩|⟨g0,g1,g2,hk4⟩
     all_goals
      clear hk4
      go_wp2_with (first|(at_mapUpdate;refine wpList_mapUpdate_own _ rfl _ _ _ 162 rfl 9 3 pq underlying162 _ w.heap.size k _ rfl hown1 (by have:=HL.o;omega) _ _ _ rfl rfl hkey _ [] (plainElem_int underlying3 (by decide)) ?_)|go_in)
      intro w1 hown2 fE;have d0:w1.cell? ⟨wr.heap.size,0,none⟩=some (.string x0):=fE.cell (a:=⟨wr.heap.size,0,none⟩) (by simp[go_sem]) (by intro he;injection he with he;exact hne he);have d1:w1.cell? ⟨wr.heap.size,1,none⟩=some (.int .i64 x1):=fE.cell (a:=⟨wr.heap.size,1,none⟩) (by simp[go_sem]) (by intro he;injection he with he;exact hne he);have d2:w1.cell? ⟨wr.heap.size,2,none⟩=some (.int .i64 x2):=fE.cell (a:=⟨wr.heap.size,2,none⟩) (by simp[go_sem]) (by intro he;injection he with he;exact hne he);obtain⟨c2,NI,yZ,_⟩:=hown2.lookup_int pq underlying162 underlying3 (ux _) hkey;have hc2:=yZ.symm.trans (atKey_put_same HN.o.1 (by trivial) _ _);obtain rfl:c2=1:=by injection hc2 with hc2;injection hc2
      have Uw:=hd hown2;have bw:=hd ((af HB.o _).grown fE (by have:=HB.o.size;simp;omega) (fun j hj=>by cases hj;exact aU _));have z1:wr.heap.size<w1.heap.size:=by have:=fE.size;simp at this;omega
      clear hat yZ hc2 hown1 hown2 fE hrun hne
      go_wp2_with (first|((go_at_call 66);(with_reducible refine(N1.o _).mono ?_);rintro e w2⟨rfl,hb2⟩;obtain⟨eA,kW⟩:=iQ hb2;have f0:w2.cell? ⟨wr.heap.size,0,none⟩=some (.string x0):=(eA _ _ z1).trans d0;have f1:w2.cell? ⟨wr.heap.size,1,none⟩=some (.int .i64 x1):=(eA _ _ z1).trans d1;have f2:w2.cell? ⟨wr.heap.size,2,none⟩=some (.int .i64 x2):=(eA _ _ z1).trans d2;have cC:=hd (hb2.mono (by have:=bw.o.size;exact this));have BJ:=hd (Uw.o.kept (qR hb2) (by simp));clear hb2 eA kW d0 d1 d2))
      go_ret;exact⟨by rw[Rn.o];rfl,bw.o.trans cC.o⟩
    |true=>
     have N1:=hd (fun w=>(show Calls prog 66 #[.string x0] w (aB true w)from t1▸gN x0 w));have hE:=G8.o;rw[t1]at hE;simp only[Bool.true_and]at hE;have Rn:=hd hE;clear hE t1 G8;cases t2:Sp.index x2 with
     |false=>
      have I1:=hd (fun w=>(show Calls prog 67 #[.int .i64 x2] w (fun e w'=>e= .returned (.bool false)/\w=w')from t2▸fZ x2 w));have hE:=Rn.o;rw[t2]at hE;have Ro:=hd hE;clear hE t2 Rn;rcases CW x1 with⟨g0,hk4⟩|⟨g0,g1,hk4⟩|⟨g0,g1,g2,hk4⟩|⟨g0,g1,g2,hk4⟩
      all_goals
       have hE:=Ro.o;rw[hk4]at hE;simp only[Bool.true_and,Bool.false_and,Bool.and_true,Bool.and_false]at hE;have xq:=hd hE;clear hE hk4 Ro
       go_wp2_with (first|(at_mapUpdate;refine wpList_mapUpdate_own _ rfl _ _ _ 162 rfl 9 3 pq underlying162 _ w.heap.size k _ rfl hown1 (by have:=HL.o;omega) _ _ _ rfl rfl hkey _ [] (plainElem_int underlying3 (by decide)) ?_)|go_in)
       intro w1 hown2 fE;have d0:w1.cell? ⟨wr.heap.size,0,none⟩=some (.string x0):=fE.cell (a:=⟨wr.heap.size,0,none⟩) (by simp[go_sem]) (by intro he;injection he with he;exact hne he);have d1:w1.cell? ⟨wr.heap.size,1,none⟩=some (.int .i64 x1):=fE.cell (a:=⟨wr.heap.size,1,none⟩) (by simp[go_sem]) (by intro he;injection he with he;exact hne he);have d2:w1.cell? ⟨wr.heap.size,2,none⟩=some (.int .i64 x2):=fE.cell (a:=⟨wr.heap.size,2,none⟩) (by simp[go_sem]) (by intro he;injection he with he;exact hne he);obtain⟨c2,NI,yZ,_⟩:=hown2.lookup_int pq underlying162 underlying3 (ux _) hkey;have hc2:=yZ.symm.trans (atKey_put_same HN.o.1 (by trivial) _ _);obtain rfl:c2=1:=by injection hc2 with hc2;injection hc2
       have Uw:=hd hown2;have bw:=hd ((af HB.o _).grown fE (by have:=HB.o.size;simp;omega) (fun j hj=>by cases hj;exact aU _));have z1:wr.heap.size<w1.heap.size:=by have:=fE.size;simp at this;omega
       clear hat yZ hc2 hown1 hown2 fE hrun hne
       go_wp2_with (first|((go_at_call 66);(with_reducible refine(N1.o _).mono ?_);rintro e w2⟨rfl,hb2⟩;obtain⟨eA,kW⟩:=iQ hb2;have f0:w2.cell? ⟨wr.heap.size,0,none⟩=some (.string x0):=(eA _ _ z1).trans d0;have f1:w2.cell? ⟨wr.heap.size,1,none⟩=some (.int .i64 x1):=(eA _ _ z1).trans d1;have f2:w2.cell? ⟨wr.heap.size,2,none⟩=some (.int .i64 x2):=(eA _ _ z1).trans d2;have cC:=hd (hb2.mono (by have:=bw.o.size;exact this));have BJ:=hd (Uw.o.kept (qR hb2) (by simp));clear hb2 eA kW d0 d1 d2)|((go_at_call 67);(with_reducible refine(I1.o _).mono ?_);rintro e w'⟨rfl,rfl⟩))
       first
       |(go_ret;exact⟨by rw[xq.o];rfl,bw.o.trans cC.o⟩)
       |(go_roundw;(case rel=>exact⟨k+1,_,by omega,by go_num,BJ,hd (XQ.o.symm▸wK HN.o x0.data.toList),xq,hd (bw.o.trans cC.o)⟩);(case measure=>simp[intOf];omega))
     |true=>
      have I1:=hd (fun w=>(show Calls prog 67 #[.int .i64 x2] w (fun e w'=>e= .returned (.bool true)/\w=w')from t2▸fZ x2 w));have hE:=Rn.o;rw[t2]at hE;have Ro:=hd hE;clear hE t2 Rn;rcases CW x1 with⟨g0,hk4⟩|⟨g0,g1,hk4⟩|⟨g0,g1,g2,hk4⟩|⟨g0,g1,g2,hk4⟩
      all_goals
       have hE:=Ro.o;rw[hk4]at hE;simp only[Bool.true_and,Bool.false_and,Bool.and_true,Bool.and_false]at hE;have xq:=hd hE;clear hE hk4 Ro
       go_wp2_with (first|(at_mapUpdate;refine wpList_mapUpdate_own _ rfl _ _ _ 162 rfl 9 3 pq underlying162 _ w.heap.size k _ rfl hown1 (by have:=HL.o;omega) _ _ _ rfl rfl hkey _ [] (plainElem_int underlying3 (by decide)) ?_)|go_in)
       intro w1 hown2 fE;have d0:w1.cell? ⟨wr.heap.size,0,none⟩=some (.string x0):=fE.cell (a:=⟨wr.heap.size,0,none⟩) (by simp[go_sem]) (by intro he;injection he with he;exact hne he);have d1:w1.cell? ⟨wr.heap.size,1,none⟩=some (.int .i64 x1):=fE.cell (a:=⟨wr.heap.size,1,none⟩) (by simp[go_sem]) (by intro he;injection he with he;exact hne he);have d2:w1.cell? ⟨wr.heap.size,2,none⟩=some (.int .i64 x2):=fE.cell (a:=⟨wr.heap.size,2,none⟩) (by simp[go_sem]) (by intro he;injection he with he;exact hne he);obtain⟨c2,NI,yZ,_⟩:=hown2.lookup_int pq underlying162 underlying3 (ux _) hkey;have hc2:=yZ.symm.trans (atKey_put_same HN.o.1 (by trivial) _ _);obtain rfl:c2=1:=by injection hc2 with hc2;injection hc2
       have Uw:=hd hown2;have bw:=hd ((af HB.o _).grown fE (by have:=HB.o.size;simp;omega) (fun j hj=>by cases hj;exact aU _));have z1:wr.heap.size<w1.heap.size:=by have:=fE.size;simp at this;omega
       clear hat yZ hc2 hown1 hown2 fE hrun hne
       go_wp2_with (first|((go_at_call 66);(with_reducible refine(N1.o _).mono ?_);rintro e w2⟨rfl,hb2⟩;obtain⟨eA,kW⟩:=iQ hb2;have f0:w2.cell? ⟨wr.heap.size,0,none⟩=some (.string x0):=(eA _ _ z1).trans d0;have f1:w2.cell? ⟨wr.heap.size,1,none⟩=some (.int .i64 x1):=(eA _ _ z1).trans d1;have f2:w2.cell? ⟨wr.heap.size,2,none⟩=some (.int .i64 x2):=(eA _ _ z1).trans d2;have cC:=hd (hb2.mono (by have:=bw.o.size;exact this));have BJ:=hd (Uw.o.kept (qR hb2) (by simp));clear hb2 eA kW d0 d1 d2)|((go_at_call 67);(with_reducible refine(I1.o _).mono ?_);rintro e w'⟨rfl,rfl⟩))
       first
       |(go_ret;exact⟨by rw[xq.o];rfl,bw.o.trans cC.o⟩)
       |(go_roundw;(case rel=>exact⟨k+1,_,by omega,by go_num,BJ,hd (XQ.o.symm▸wK HN.o x0.data.toList),xq,hd (bw.o.trans cC.o)⟩);(case measure=>simp[intOf];omega))
  ·go_wp2
   go_ret;have:k=xs.length:=by omega
   subst this;exact⟨by rw[HE.o,CV];rfl,HB.o⟩
end Go.Proofs.YthehihjcpiadgaaGreat
namespace Go.Proofs.YthehihjcpiadgaaGreat
open Go.RowKit Go.Proofs.Wz.PrintWords Go.Proofs.Wz.bM
theorem NJ(x:ig)(cs:List Value)(w:World)(h:qo.K w x cs):Calls prog 63 #[.agg cs.toArray] w (aB (Sp.typed x) w):=by
 obtain⟨A0,c0,A1,c1,rfl,l0,g0,l1,g1⟩:=yC h;exact CT A0 A1 c0 c1 x.f0 x.f1 w g0 g1
theorem Kz(x:iX)(cs:List Value)(w:World)(h:j8.K w x cs):Calls prog 65 #[.agg cs.toArray] w (aB (Sp.imported x) w):=by
 obtain rfl:=vn h;exact AD x w
theorem KA(x:jA)(cs:List Value)(w:World)(h:kH.K w x cs):Calls prog 70 #[.agg cs.toArray] w (aB (Sp.custom x) w):=by
 obtain⟨A1,c1,rfl,l1,g1⟩:=vp h;exact AE x A1 c1 w
theorem KB(x:iB)(cs:List Value)(w:World)(h:fL.K w x cs):Calls prog 72 #[.agg cs.toArray] w (aB (Sp.qO x) w):=by
 obtain⟨A1,c1,A2,c2,rfl,l1,g1,l2,g2⟩:=jY h;exact CU x.f0 x.f1 x.f2 A1 A2 c1 c2 w g1 g2
theorem KC(x:jw)(cs:List Value)(w:World)(h:jQ.K w x cs):Calls prog 74 #[.agg cs.toArray] w (aB (Sp.memory x) w):=by
 obtain rfl:=vk h;exact AG x w
theorem G9(x:dV)(cs:List Value)(w:World)(h:eE.K w x cs):Calls prog 76 #[.agg cs.toArray] w (aB (Sp.jG x) w):=by
 obtain rfl:=sK h;exact AH x w
theorem He(x:eF)(cs:List Value)(w:World)(h:fM.K w x cs):Calls prog 79 #[.agg cs.toArray] w (aB (Sp.laid x) w):=by
 obtain⟨A3,c3,rfl,l3,g3⟩:=sL h;exact ER x.f1 x.f2 x.f3 A3 c3 w x.f0
theorem Rp(M:bL):Sp.full M=((decide ((M.f0.length:Int)>64)||decide ((M.f1.length:Int)+(M.f2.length:Int)>256)||decide ((M.f3.length:Int)>4)||decide ((M.f4.length:Int)>256)||decide ((M.f6.length:Int)>16)||decide ((M.f5.length:Int)>256)||decide ((M.f7.length:Int)>16))):=by
 unfold Sp.full;rw[Bool.eq_iff_iff];simp only[Bool.or_eq_true,decide_eq_true_iff];omega
theorem seven: ∀b0 b1 b2 b3 b4 b5 b6:Bool,b0=true\/b0=false/\(b1=true\/b1=false/\(b2=true\/b2=false/\(b3=true\/b3=false/\(b4=true\/b4=false/\(b5=true\/b5=false/\(b6=true\/b6=false)))))):=by intro b0 b1 b2 b3 b4 b5 b6;cases b0<;>cases b1<;>cases b2<;>cases b3<;>cases b4<;>cases b5<;>cases b6<;>simp
theorem za(M:bL)(cs:List Value)(w:World)(h:bZ.K w M cs)(n1:M.f1.length<=140737488355328)(n2:M.f2.length<=140737488355328):Calls prog 61 #[.agg cs.toArray] w (aB (Sp.full M) w):=by
 obtain⟨A0,c0,A1,c1,A2,c2,A3,c3,A4,c4,A5,c5,A6,c6,A7,c7,rfl,-⟩:=aD h;have e:wrap64 ((M.f1.length:Int)+(M.f2.length:Int))=(M.f1.length:Int)+(M.f2.length:Int):=Tx.xR (by omega) (by omega);rw[Rp];generalize g0:decide ((M.f0.length:Int)>64)=b0;generalize g1:decide ((M.f1.length:Int)+(M.f2.length:Int)>256)=b1;generalize g2:decide ((M.f3.length:Int)>4)=b2;generalize g3:decide ((M.f4.length:Int)>256)=b3;generalize g4:decide ((M.f6.length:Int)>16)=b4;generalize g5:decide ((M.f5.length:Int)>256)=b5;generalize g6:decide ((M.f7.length:Int)>16)=b6;clear h n1 n2;rcases seven b0 b1 b2 b3 b4 b5 b6 with rfl|⟨rfl,rfl|⟨rfl,rfl|⟨rfl,rfl|⟨rfl,rfl|⟨rfl,rfl|⟨rfl,rfl|rfl⟩⟩⟩⟩⟩⟩
 all_goals
  go_enter func61,ntmps61
  go_wp2_with fail
  go_ret;exact⟨rfl,af (ay _ _) _⟩
def lg(n:Int)(w:World)(e:Ending)(w':World):Prop:=e= .returned (.int .i64 n)/\Below w.heap.size w w'
theorem uy(M:bL)(cs:List Value)(w:World)(h:bZ.K w M cs)(n1:M.f1.length<=140737488355328)(n2:M.f2.length<=140737488355328)(hsz: ∀i:Int,(cu M.f5 i).f0.size<=maxLen):Calls prog 37 #[.agg cs.toArray] w (lg (Sp.right M) w):=by
 obtain⟨A0,c0,A1,c1,A2,c2,A3,c3,A4,c4,A5,c5,A6,c6,A7,c7,rfl,l0,g0,l1,g1,l2,g2,l3,g3,l4,g4,l5,g5,l6,g6,l7,g7⟩:=aD h;have CF:=hd (fun W (hb:Below w.heap.size w W)=>za M _ W (Kd.dJ bZ hb h) n1 n2);have C0:=hd (fun W (hb:Below w.heap.size w W)=>Uu 63 Sp.typed W (fun cs w=>enters_of func63 (by kernel_rfl) rfl _ w) (fun x cs w' _ hx=>NJ x cs w' hx) A0 c0 M.f0 (Kd.bJ g0 hb));have C1:=hd (fun W (hb:Below w.heap.size w W)=>Rj 65 Sp.imported W (fun cs w=>enters_of func65 (by kernel_rfl) rfl _ w) (fun x cs w' _ hx=>Kz x cs w' hx) A1 c1 M.f1 (Kd.bJ g1 hb));have C2:=hd (fun W (hb:Below w.heap.size w W) (hl:M.f5.length<maxLen)=>xo A5 c5 M.f5 W (Kd.bJ g5 hb) hsz hl);have C3:=hd (fun W (hb:Below w.heap.size w W)=>Rm 70 Sp.custom W (fun cs w=>enters_of func70 (by kernel_rfl) rfl _ w) (fun x cs w' _ hx=>KA x cs w' hx) A7 c7 M.f7 (Kd.bJ g7 hb));have C4:=hd (fun W (hb:Below w.heap.size w W)=>Rk 72 Sp.qO W (fun cs w=>enters_of func72 (by kernel_rfl) rfl _ w) (fun x cs w' _ hx=>KB x cs w' hx) A2 c2 M.f2 (Kd.bJ g2 hb));have C5:=hd (fun W (hb:Below w.heap.size w W)=>Rl 74 Sp.memory W (fun cs w=>enters_of func74 (by kernel_rfl) rfl _ w) (fun x cs w' _ hx=>KC x cs w' hx) A3 c3 M.f3 (Kd.bJ g3 hb));have C6:=hd (fun W (hb:Below w.heap.size w W)=>ND 76 Sp.jG W (fun cs w=>enters_of func76 (by kernel_rfl) rfl _ w) (fun x cs w' _ hx=>G9 x cs w' hx) A4 c4 M.f4 (Kd.bJ g4 hb));have C7:=hd (fun W (hb:Below w.heap.size w W)=>NF 79 Sp.laid W (fun cs w=>enters_of func79 (by kernel_rfl) rfl _ w) (fun x cs w' _ hx=>He x cs w' hx) A6 c6 M.f6 (Kd.bJ g6 hb));clear g0 l0 g1 l1 g2 l2 g3 l3 g4 l4 g5 l5 g6 l6 g7 l7 h n1 n2 hsz;unfold Sp.right;have tC:=hd (show(w.alloc (.cells #[.slice A0 M.f0.length c0,.slice A1 M.f1.length c1,.slice A2 M.f2.length c2,.slice A3 M.f3.length c3,.slice A4 M.f4.length c4,.slice A5 M.f5.length c5,.slice A6 M.f6.length c6,.slice A7 M.f7.length c7] 37)).heap[w.heap.size]? =some (.cells #[.slice A0 M.f0.length c0,.slice A1 M.f1.length c1,.slice A2 M.f2.length c2,.slice A3 M.f3.length c3,.slice A4 M.f4.length c4,.slice A5 M.f5.length c5,.slice A6 M.f6.length c6,.slice A7 M.f7.length c7] 37 (0,0))from dh w _);have cn:=hd (af (ay w.heap.size w) (.cells #[.slice A0 M.f0.length c0,.slice A1 M.f1.length c1,.slice A2 M.f2.length c2,.slice A3 M.f3.length c3,.slice A4 M.f4.length c4,.slice A5 M.f5.length c5,.slice A6 M.f6.length c6,.slice A7 M.f7.length c7] 37));cases tf:Sp.full M with
 |true=>
  rw[tf]at CF;rw[if_pos rfl]
  go_enter func37,ntmps37
  go_wp2_with (first|((go_at_call 61);(with_reducible refine(CF.o _ cn.o).mono ?_);rintro e w1⟨rfl,hb⟩;have lT:=hd ((hb.block w.heap.size (aj tC.o)).trans tC.o);have bE:=hd (cn.o.trans (hb.mono cn.o.size));clear hb))
  go_ret;exact⟨rfl,bE.o⟩
 |false=>
  have Qc:M.f5.length<maxLen:=by have:=of_decide_eq_false tf;unfold maxLen;omega
  rw[tf]at CF;rw[if_neg (by simp)];clear tf;cases t0:M.f0.all Sp.typed with
  |false=>
   rw[t0]at C0
   go_enter func37,ntmps37
   go_wp2_with (first|((go_at_call 61);(with_reducible refine(CF.o _ cn.o).mono ?_);rintro e w1⟨rfl,hb⟩;have lT:=hd ((hb.block w.heap.size (aj tC.o)).trans tC.o);have bE:=hd (cn.o.trans (hb.mono cn.o.size));have d0:w1.cell? ⟨w.heap.size,0,none⟩=some (.slice A0 M.f0.length c0):=(aa lT.o 0).trans rfl;clear hb)|((go_at_call 62);(with_reducible refine(C0.o _ bE.o).mono ?_);rintro e w2⟨rfl,hb⟩;have sy:=hd ((hb.block w.heap.size (aj lT.o)).trans lT.o);have bw:=hd (bE.o.trans (hb.mono bE.o.size));clear hb))
   go_ret;exact⟨by simp,bw.o⟩
  |true=>
   rw[t0]at C0;clear t0;cases t1:M.f1.all Sp.imported with
   |false=>
    rw[t1]at C1
    go_enter func37,ntmps37
    go_wp2_with (first|((go_at_call 61);(with_reducible refine(CF.o _ cn.o).mono ?_);rintro e w1⟨rfl,hb⟩;have lT:=hd ((hb.block w.heap.size (aj tC.o)).trans tC.o);have bE:=hd (cn.o.trans (hb.mono cn.o.size));have d0:w1.cell? ⟨w.heap.size,0,none⟩=some (.slice A0 M.f0.length c0):=(aa lT.o 0).trans rfl;clear hb)|((go_at_call 62);(with_reducible refine(C0.o _ bE.o).mono ?_);rintro e w2⟨rfl,hb⟩;have sy:=hd ((hb.block w.heap.size (aj lT.o)).trans lT.o);have bw:=hd (bE.o.trans (hb.mono bE.o.size));have d1:w2.cell? ⟨w.heap.size,1,none⟩=some (.slice A1 M.f1.length c1):=(aa sy.o 1).trans rfl;clear hb)|((go_at_call 64);(with_reducible refine(C1.o _ bw.o).mono ?_);rintro e w3⟨rfl,hb⟩;have mM:=hd ((hb.block w.heap.size (aj sy.o)).trans sy.o);have cC:=hd (bw.o.trans (hb.mono bw.o.size));clear hb))
    go_ret;exact⟨by simp,cC.o⟩
   |true=>
    rw[t1]at C1;clear t1;cases t2:Sp.exported [] M.f5 with
    |false=>
     rw[t2]at C2
     go_enter func37,ntmps37
     go_wp2_with (first|((go_at_call 61);(with_reducible refine(CF.o _ cn.o).mono ?_);rintro e w1⟨rfl,hb⟩;have lT:=hd ((hb.block w.heap.size (aj tC.o)).trans tC.o);have bE:=hd (cn.o.trans (hb.mono cn.o.size));have d0:w1.cell? ⟨w.heap.size,0,none⟩=some (.slice A0 M.f0.length c0):=(aa lT.o 0).trans rfl;clear hb)|((go_at_call 62);(with_reducible refine(C0.o _ bE.o).mono ?_);rintro e w2⟨rfl,hb⟩;have sy:=hd ((hb.block w.heap.size (aj lT.o)).trans lT.o);have bw:=hd (bE.o.trans (hb.mono bE.o.size));have d1:w2.cell? ⟨w.heap.size,1,none⟩=some (.slice A1 M.f1.length c1):=(aa sy.o 1).trans rfl;clear hb)|((go_at_call 64);(with_reducible refine(C1.o _ bw.o).mono ?_);rintro e w3⟨rfl,hb⟩;have mM:=hd ((hb.block w.heap.size (aj sy.o)).trans sy.o);have cC:=hd (bw.o.trans (hb.mono bw.o.size));have d2:w3.cell? ⟨w.heap.size,5,none⟩=some (.slice A5 M.f5.length c5):=(aa mM.o 5).trans rfl;clear hb)|((go_at_call 68);(with_reducible refine(C2.o _ cC.o Qc).mono ?_);rintro e w4⟨rfl,hb⟩;have sW:=hd ((hb.block w.heap.size (aj mM.o)).trans mM.o);have bP:=hd (cC.o.trans (hb.mono cC.o.size));clear hb))
     go_ret;exact⟨by simp,bP.o⟩
    |true=>
     rw[t2]at C2;clear t2;cases t3:M.f7.all Sp.custom with
     |false=>
      rw[t3]at C3
      go_enter func37,ntmps37
      go_wp2_with (first|((go_at_call 61);(with_reducible refine(CF.o _ cn.o).mono ?_);rintro e w1⟨rfl,hb⟩;have lT:=hd ((hb.block w.heap.size (aj tC.o)).trans tC.o);have bE:=hd (cn.o.trans (hb.mono cn.o.size));have d0:w1.cell? ⟨w.heap.size,0,none⟩=some (.slice A0 M.f0.length c0):=(aa lT.o 0).trans rfl;clear hb)|((go_at_call 62);(with_reducible refine(C0.o _ bE.o).mono ?_);rintro e w2⟨rfl,hb⟩;have sy:=hd ((hb.block w.heap.size (aj lT.o)).trans lT.o);have bw:=hd (bE.o.trans (hb.mono bE.o.size));have d1:w2.cell? ⟨w.heap.size,1,none⟩=some (.slice A1 M.f1.length c1):=(aa sy.o 1).trans rfl;clear hb)|((go_at_call 64);(with_reducible refine(C1.o _ bw.o).mono ?_);rintro e w3⟨rfl,hb⟩;have mM:=hd ((hb.block w.heap.size (aj sy.o)).trans sy.o);have cC:=hd (bw.o.trans (hb.mono bw.o.size));have d2:w3.cell? ⟨w.heap.size,5,none⟩=some (.slice A5 M.f5.length c5):=(aa mM.o 5).trans rfl;clear hb)|((go_at_call 68);(with_reducible refine(C2.o _ cC.o Qc).mono ?_);rintro e w4⟨rfl,hb⟩;have sW:=hd ((hb.block w.heap.size (aj mM.o)).trans mM.o);have bP:=hd (cC.o.trans (hb.mono cC.o.size));have d3:w4.cell? ⟨w.heap.size,7,none⟩=some (.slice A7 M.f7.length c7):=(aa sW.o 7).trans rfl;clear hb)|((go_at_call 69);(with_reducible refine(C3.o _ bP.o).mono ?_);rintro e w5⟨rfl,hb⟩;have BL:=hd ((hb.block w.heap.size (aj sW.o)).trans sW.o);have gI:=hd (bP.o.trans (hb.mono bP.o.size));clear hb))
      go_ret;exact⟨by simp,gI.o⟩
     |true=>
      rw[t3]at C3;clear t3;cases t4:M.f2.all Sp.qO with
      |false=>
       rw[t4]at C4
       go_enter func37,ntmps37
       go_wp2_with (first|((go_at_call 61);(with_reducible refine(CF.o _ cn.o).mono ?_);rintro e w1⟨rfl,hb⟩;have lT:=hd ((hb.block w.heap.size (aj tC.o)).trans tC.o);have bE:=hd (cn.o.trans (hb.mono cn.o.size));have d0:w1.cell? ⟨w.heap.size,0,none⟩=some (.slice A0 M.f0.length c0):=(aa lT.o 0).trans rfl;clear hb)|((go_at_call 62);(with_reducible refine(C0.o _ bE.o).mono ?_);rintro e w2⟨rfl,hb⟩;have sy:=hd ((hb.block w.heap.size (aj lT.o)).trans lT.o);have bw:=hd (bE.o.trans (hb.mono bE.o.size));have d1:w2.cell? ⟨w.heap.size,1,none⟩=some (.slice A1 M.f1.length c1):=(aa sy.o 1).trans rfl;clear hb)|((go_at_call 64);(with_reducible refine(C1.o _ bw.o).mono ?_);rintro e w3⟨rfl,hb⟩;have mM:=hd ((hb.block w.heap.size (aj sy.o)).trans sy.o);have cC:=hd (bw.o.trans (hb.mono bw.o.size));have d2:w3.cell? ⟨w.heap.size,5,none⟩=some (.slice A5 M.f5.length c5):=(aa mM.o 5).trans rfl;clear hb)|((go_at_call 68);(with_reducible refine(C2.o _ cC.o Qc).mono ?_);rintro e w4⟨rfl,hb⟩;have sW:=hd ((hb.block w.heap.size (aj mM.o)).trans mM.o);have bP:=hd (cC.o.trans (hb.mono cC.o.size));have d3:w4.cell? ⟨w.heap.size,7,none⟩=some (.slice A7 M.f7.length c7):=(aa sW.o 7).trans rfl;clear hb)|((go_at_call 69);(with_reducible refine(C3.o _ bP.o).mono ?_);rintro e w5⟨rfl,hb⟩;have BL:=hd ((hb.block w.heap.size (aj sW.o)).trans sW.o);have gI:=hd (bP.o.trans (hb.mono bP.o.size));have d4:w5.cell? ⟨w.heap.size,2,none⟩=some (.slice A2 M.f2.length c2):=(aa BL.o 2).trans rfl;clear hb)|((go_at_call 71);(with_reducible refine(C4.o _ gI.o).mono ?_);rintro e w6⟨rfl,hb⟩;have Gm:=hd ((hb.block w.heap.size (aj BL.o)).trans BL.o);have oa:=hd (gI.o.trans (hb.mono gI.o.size));clear hb))
       go_ret;exact⟨by simp,oa.o⟩
      |true=>
       rw[t4]at C4;clear t4;cases t5:M.f3.all Sp.memory with
       |false=>
        rw[t5]at C5
        go_enter func37,ntmps37
        go_wp2_with (first|((go_at_call 61);(with_reducible refine(CF.o _ cn.o).mono ?_);rintro e w1⟨rfl,hb⟩;have lT:=hd ((hb.block w.heap.size (aj tC.o)).trans tC.o);have bE:=hd (cn.o.trans (hb.mono cn.o.size));have d0:w1.cell? ⟨w.heap.size,0,none⟩=some (.slice A0 M.f0.length c0):=(aa lT.o 0).trans rfl;clear hb)|((go_at_call 62);(with_reducible refine(C0.o _ bE.o).mono ?_);rintro e w2⟨rfl,hb⟩;have sy:=hd ((hb.block w.heap.size (aj lT.o)).trans lT.o);have bw:=hd (bE.o.trans (hb.mono bE.o.size));have d1:w2.cell? ⟨w.heap.size,1,none⟩=some (.slice A1 M.f1.length c1):=(aa sy.o 1).trans rfl;clear hb)|((go_at_call 64);(with_reducible refine(C1.o _ bw.o).mono ?_);rintro e w3⟨rfl,hb⟩;have mM:=hd ((hb.block w.heap.size (aj sy.o)).trans sy.o);have cC:=hd (bw.o.trans (hb.mono bw.o.size));have d2:w3.cell? ⟨w.heap.size,5,none⟩=some (.slice A5 M.f5.length c5):=(aa mM.o 5).trans rfl;clear hb)|((go_at_call 68);(with_reducible refine(C2.o _ cC.o Qc).mono ?_);rintro e w4⟨rfl,hb⟩;have sW:=hd ((hb.block w.heap.size (aj mM.o)).trans mM.o);have bP:=hd (cC.o.trans (hb.mono cC.o.size));have d3:w4.cell? ⟨w.heap.size,7,none⟩=some (.slice A7 M.f7.length c7):=(aa sW.o 7).trans rfl;clear hb)|((go_at_call 69);(with_reducible refine(C3.o _ bP.o).mono ?_);rintro e w5⟨rfl,hb⟩;have BL:=hd ((hb.block w.heap.size (aj sW.o)).trans sW.o);have gI:=hd (bP.o.trans (hb.mono bP.o.size));have d4:w5.cell? ⟨w.heap.size,2,none⟩=some (.slice A2 M.f2.length c2):=(aa BL.o 2).trans rfl;clear hb)|((go_at_call 71);(with_reducible refine(C4.o _ gI.o).mono ?_);rintro e w6⟨rfl,hb⟩;have Gm:=hd ((hb.block w.heap.size (aj BL.o)).trans BL.o);have oa:=hd (gI.o.trans (hb.mono gI.o.size));have d5:w6.cell? ⟨w.heap.size,3,none⟩=some (.slice A3 M.f3.length c3):=(aa Gm.o 3).trans rfl;clear hb)|((go_at_call 73);(with_reducible refine(C5.o _ oa.o).mono ?_);rintro e w7⟨rfl,hb⟩;have L5:=hd ((hb.block w.heap.size (aj Gm.o)).trans Gm.o);have wM:=hd (oa.o.trans (hb.mono oa.o.size));clear hb))
        go_ret;exact⟨by simp,wM.o⟩
       |true=>
        rw[t5]at C5;clear t5;cases t6:M.f4.all Sp.jG with
        |false=>
         rw[t6]at C6
         go_enter func37,ntmps37
         go_wp2_with (first|((go_at_call 61);(with_reducible refine(CF.o _ cn.o).mono ?_);rintro e w1⟨rfl,hb⟩;have lT:=hd ((hb.block w.heap.size (aj tC.o)).trans tC.o);have bE:=hd (cn.o.trans (hb.mono cn.o.size));have d0:w1.cell? ⟨w.heap.size,0,none⟩=some (.slice A0 M.f0.length c0):=(aa lT.o 0).trans rfl;clear hb)|((go_at_call 62);(with_reducible refine(C0.o _ bE.o).mono ?_);rintro e w2⟨rfl,hb⟩;have sy:=hd ((hb.block w.heap.size (aj lT.o)).trans lT.o);have bw:=hd (bE.o.trans (hb.mono bE.o.size));have d1:w2.cell? ⟨w.heap.size,1,none⟩=some (.slice A1 M.f1.length c1):=(aa sy.o 1).trans rfl;clear hb)|((go_at_call 64);(with_reducible refine(C1.o _ bw.o).mono ?_);rintro e w3⟨rfl,hb⟩;have mM:=hd ((hb.block w.heap.size (aj sy.o)).trans sy.o);have cC:=hd (bw.o.trans (hb.mono bw.o.size));have d2:w3.cell? ⟨w.heap.size,5,none⟩=some (.slice A5 M.f5.length c5):=(aa mM.o 5).trans rfl;clear hb)|((go_at_call 68);(with_reducible refine(C2.o _ cC.o Qc).mono ?_);rintro e w4⟨rfl,hb⟩;have sW:=hd ((hb.block w.heap.size (aj mM.o)).trans mM.o);have bP:=hd (cC.o.trans (hb.mono cC.o.size));have d3:w4.cell? ⟨w.heap.size,7,none⟩=some (.slice A7 M.f7.length c7):=(aa sW.o 7).trans rfl;clear hb)|((go_at_call 69);(with_reducible refine(C3.o _ bP.o).mono ?_);rintro e w5⟨rfl,hb⟩;have BL:=hd ((hb.block w.heap.size (aj sW.o)).trans sW.o);have gI:=hd (bP.o.trans (hb.mono bP.o.size));have d4:w5.cell? ⟨w.heap.size,2,none⟩=some (.slice A2 M.f2.length c2):=(aa BL.o 2).trans rfl;clear hb)|((go_at_call 71);(with_reducible refine(C4.o _ gI.o).mono ?_);rintro e w6⟨rfl,hb⟩;have Gm:=hd ((hb.block w.heap.size (aj BL.o)).trans BL.o);have oa:=hd (gI.o.trans (hb.mono gI.o.size));have d5:w6.cell? ⟨w.heap.size,3,none⟩=some (.slice A3 M.f3.length c3):=(aa Gm.o 3).trans rfl;clear hb)|((go_at_call 73);(with_reducible refine(C5.o _ oa.o).mono ?_);rintro e w7⟨rfl,hb⟩;have L5:=hd ((hb.block w.heap.size (aj Gm.o)).trans Gm.o);have wM:=hd (oa.o.trans (hb.mono oa.o.size));have d6:w7.cell? ⟨w.heap.size,4,none⟩=some (.slice A4 M.f4.length c4):=(aa L5.o 4).trans rfl;clear hb)|((go_at_call 75);(with_reducible refine(C6.o _ wM.o).mono ?_);rintro e w8⟨rfl,hb⟩;have Tf:=hd ((hb.block w.heap.size (aj L5.o)).trans L5.o);have mN:=hd (wM.o.trans (hb.mono wM.o.size));clear hb))
         go_ret;exact⟨by simp,mN.o⟩
        |true=>
         rw[t6]at C6;clear t6;cases t7:M.f6.all Sp.laid with
         |false=>
          rw[t7]at C7
          go_enter func37,ntmps37
          go_wp2_with (first|((go_at_call 61);(with_reducible refine(CF.o _ cn.o).mono ?_);rintro e w1⟨rfl,hb⟩;have lT:=hd ((hb.block w.heap.size (aj tC.o)).trans tC.o);have bE:=hd (cn.o.trans (hb.mono cn.o.size));have d0:w1.cell? ⟨w.heap.size,0,none⟩=some (.slice A0 M.f0.length c0):=(aa lT.o 0).trans rfl;clear hb)|((go_at_call 62);(with_reducible refine(C0.o _ bE.o).mono ?_);rintro e w2⟨rfl,hb⟩;have sy:=hd ((hb.block w.heap.size (aj lT.o)).trans lT.o);have bw:=hd (bE.o.trans (hb.mono bE.o.size));have d1:w2.cell? ⟨w.heap.size,1,none⟩=some (.slice A1 M.f1.length c1):=(aa sy.o 1).trans rfl;clear hb)|((go_at_call 64);(with_reducible refine(C1.o _ bw.o).mono ?_);rintro e w3⟨rfl,hb⟩;have mM:=hd ((hb.block w.heap.size (aj sy.o)).trans sy.o);have cC:=hd (bw.o.trans (hb.mono bw.o.size));have d2:w3.cell? ⟨w.heap.size,5,none⟩=some (.slice A5 M.f5.length c5):=(aa mM.o 5).trans rfl;clear hb)|((go_at_call 68);(with_reducible refine(C2.o _ cC.o Qc).mono ?_);rintro e w4⟨rfl,hb⟩;have sW:=hd ((hb.block w.heap.size (aj mM.o)).trans mM.o);have bP:=hd (cC.o.trans (hb.mono cC.o.size));have d3:w4.cell? ⟨w.heap.size,7,none⟩=some (.slice A7 M.f7.length c7):=(aa sW.o 7).trans rfl;clear hb)|((go_at_call 69);(with_reducible refine(C3.o _ bP.o).mono ?_);rintro e w5⟨rfl,hb⟩;have BL:=hd ((hb.block w.heap.size (aj sW.o)).trans sW.o);have gI:=hd (bP.o.trans (hb.mono bP.o.size));have d4:w5.cell? ⟨w.heap.size,2,none⟩=some (.slice A2 M.f2.length c2):=(aa BL.o 2).trans rfl;clear hb)|((go_at_call 71);(with_reducible refine(C4.o _ gI.o).mono ?_);rintro e w6⟨rfl,hb⟩;have Gm:=hd ((hb.block w.heap.size (aj BL.o)).trans BL.o);have oa:=hd (gI.o.trans (hb.mono gI.o.size));have d5:w6.cell? ⟨w.heap.size,3,none⟩=some (.slice A3 M.f3.length c3):=(aa Gm.o 3).trans rfl;clear hb)|((go_at_call 73);(with_reducible refine(C5.o _ oa.o).mono ?_);rintro e w7⟨rfl,hb⟩;have L5:=hd ((hb.block w.heap.size (aj Gm.o)).trans Gm.o);have wM:=hd (oa.o.trans (hb.mono oa.o.size));have d6:w7.cell? ⟨w.heap.size,4,none⟩=some (.slice A4 M.f4.length c4):=(aa L5.o 4).trans rfl;clear hb)|((go_at_call 75);(with_reducible refine(C6.o _ wM.o).mono ?_);rintro e w8⟨rfl,hb⟩;have Tf:=hd ((hb.block w.heap.size (aj L5.o)).trans L5.o);have mN:=hd (wM.o.trans (hb.mono wM.o.size));have d7:w8.cell? ⟨w.heap.size,6,none⟩=some (.slice A6 M.f6.length c6):=(aa Tf.o 6).trans rfl;clear hb)|((go_at_call 78);(with_reducible refine(C7.o _ mN.o).mono ?_);rintro e w9⟨rfl,hb⟩;have BK9:=hd ((hb.block w.heap.size (aj Tf.o)).trans Tf.o);have iZ:=hd (mN.o.trans (hb.mono mN.o.size));clear hb))
          go_ret;exact⟨by simp,iZ.o⟩
         |true=>
          rw[t7]at C7;clear t7
          go_enter func37,ntmps37
          go_wp2_with (first|((go_at_call 61);(with_reducible refine(CF.o _ cn.o).mono ?_);rintro e w1⟨rfl,hb⟩;have lT:=hd ((hb.block w.heap.size (aj tC.o)).trans tC.o);have bE:=hd (cn.o.trans (hb.mono cn.o.size));have d0:w1.cell? ⟨w.heap.size,0,none⟩=some (.slice A0 M.f0.length c0):=(aa lT.o 0).trans rfl;clear hb)|((go_at_call 62);(with_reducible refine(C0.o _ bE.o).mono ?_);rintro e w2⟨rfl,hb⟩;have sy:=hd ((hb.block w.heap.size (aj lT.o)).trans lT.o);have bw:=hd (bE.o.trans (hb.mono bE.o.size));have d1:w2.cell? ⟨w.heap.size,1,none⟩=some (.slice A1 M.f1.length c1):=(aa sy.o 1).trans rfl;clear hb)|((go_at_call 64);(with_reducible refine(C1.o _ bw.o).mono ?_);rintro e w3⟨rfl,hb⟩;have mM:=hd ((hb.block w.heap.size (aj sy.o)).trans sy.o);have cC:=hd (bw.o.trans (hb.mono bw.o.size));have d2:w3.cell? ⟨w.heap.size,5,none⟩=some (.slice A5 M.f5.length c5):=(aa mM.o 5).trans rfl;clear hb)|((go_at_call 68);(with_reducible refine(C2.o _ cC.o Qc).mono ?_);rintro e w4⟨rfl,hb⟩;have sW:=hd ((hb.block w.heap.size (aj mM.o)).trans mM.o);have bP:=hd (cC.o.trans (hb.mono cC.o.size));have d3:w4.cell? ⟨w.heap.size,7,none⟩=some (.slice A7 M.f7.length c7):=(aa sW.o 7).trans rfl;clear hb)|((go_at_call 69);(with_reducible refine(C3.o _ bP.o).mono ?_);rintro e w5⟨rfl,hb⟩;have BL:=hd ((hb.block w.heap.size (aj sW.o)).trans sW.o);have gI:=hd (bP.o.trans (hb.mono bP.o.size));have d4:w5.cell? ⟨w.heap.size,2,none⟩=some (.slice A2 M.f2.length c2):=(aa BL.o 2).trans rfl;clear hb)|((go_at_call 71);(with_reducible refine(C4.o _ gI.o).mono ?_);rintro e w6⟨rfl,hb⟩;have Gm:=hd ((hb.block w.heap.size (aj BL.o)).trans BL.o);have oa:=hd (gI.o.trans (hb.mono gI.o.size));have d5:w6.cell? ⟨w.heap.size,3,none⟩=some (.slice A3 M.f3.length c3):=(aa Gm.o 3).trans rfl;clear hb)|((go_at_call 73);(with_reducible refine(C5.o _ oa.o).mono ?_);rintro e w7⟨rfl,hb⟩;have L5:=hd ((hb.block w.heap.size (aj Gm.o)).trans Gm.o);have wM:=hd (oa.o.trans (hb.mono oa.o.size));have d6:w7.cell? ⟨w.heap.size,4,none⟩=some (.slice A4 M.f4.length c4):=(aa L5.o 4).trans rfl;clear hb)|((go_at_call 75);(with_reducible refine(C6.o _ wM.o).mono ?_);rintro e w8⟨rfl,hb⟩;have Tf:=hd ((hb.block w.heap.size (aj L5.o)).trans L5.o);have mN:=hd (wM.o.trans (hb.mono wM.o.size));have d7:w8.cell? ⟨w.heap.size,6,none⟩=some (.slice A6 M.f6.length c6):=(aa Tf.o 6).trans rfl;clear hb)|((go_at_call 78);(with_reducible refine(C7.o _ mN.o).mono ?_);rintro e w9⟨rfl,hb⟩;have BK9:=hd ((hb.block w.heap.size (aj Tf.o)).trans Tf.o);have iZ:=hd (mN.o.trans (hb.mono mN.o.size));clear hb))
          go_ret;exact⟨by simp,iZ.o⟩
end Go.Proofs.YthehihjcpiadgaaGreat
