import Derived.Shelf.Abstract
import Derived.Deep.RegionLaw
import Derived.Test.YthehihjcpiadgaaGreatCheckMadeB4
set_option maxRecDepth 100000
set_option maxHeartbeats 0
set_option linter.all false
open Go.Proofs.Tryz
namespace Go.Proofs.YthehihjcpiadgaaGreat
open Go.RowKit Go.Proofs.Wz.PrintWords Go.Proofs.Wz.bM
theorem Ko{p:Int->Bool}{xs:List Int}{k:Nat}(h:(xs.take k).any p=false)(hx:k<xs.length)(he:p (xs.getD k 0)=false):(xs.take (k+1)).any p=false:=by
 rw[List.take_succ_eq_append_getElem hx,List.any_append,h];simp[gq,hx]at he;simp[he]
theorem Ur{p:Int->Bool}{xs:List Int}{k:Nat}(hx:k<xs.length)(he:p (xs.getD k 0)=true):xs.any p=true:=by
 rw[List.any_eq_true];simp[gq,hx]at he;exact⟨xs[k],List.getElem_mem hx,he⟩
def Ng(b:Bool)(w:World)(e:Ending)(w':World):Prop:= ∃r:Int,e= .returned (.int .i64 r)/\decide (0<=r)=b/\w=w'
theorem qN(G:Nat)(p:Int->Bool)(hG: ∀x w,Sem.run prog (callFunc G #[.int .i64 x]) w= .ok (.enter G #[.int .i64 x]) w)(hp: ∀x w,Calls prog G #[.int .i64 x] w fun e w'=>e= .returned (.bool (p x))/\w=w')(A:Option Addr)(cA:Nat)(xs:List Int)(w:World)(hx:bf w A xs):
 Calls prog 180 #[.slice A xs.length cA,.func (.func G) #[] #[]] w (Ng (xs.any p) w):=by
 have mx:=Kd.qy hx;have HX:=hd hx;have HP:=hd hp;have HG:=hd hG;clear hx hp hG
 go_enter func180,ntmps180
 go_wp2
 go_loop [8] (fun i=> ∃k:Nat,k<=xs.length/\i= .int .i64 k/\Hid ((xs.take k).any p=false)) (fun i=>xs.length-(intOf i).toNat)
 case atStart=>exact⟨0,by omega,rfl,hd rfl⟩
 case round=>
  obtain⟨k,hk,rfl,ht⟩:=hrel;by_cases bI:k<xs.length
  ·obtain⟨ad,e1,hc1⟩:=Kd.fQ HX.o (k:Int) (by omega) (by omega)
   subst e1;rw[dF]at hc1;have tB:=HP.o (rd xs k);cases hb:p (rd xs k)with
   |false=>
    rw[hb]at tB;have HK:=hd tB;have HB:=hd hb;clear tB hb
    go_wp2_with fail
    rw[HG.o,Oper.upon_enter];refine(HK.o _).mono ?_;rintro e w'⟨rfl,rfl⟩
    go_wp2_with fail
    go_round
    case rel=>exact⟨k+1,by omega,by go_num,hd (Ko ht.o bI (by have:=HB.o;simpa[rd]using this))⟩
    case measure=>simp[intOf];omega
   |true=>
    rw[hb]at tB;have HK:=hd tB;have HB:=hd hb;clear tB hb
    go_wp2_with fail
    rw[HG.o,Oper.upon_enter];refine(HK.o _).mono ?_;rintro e w'⟨rfl,rfl⟩
    go_wp2_with fail
    go_ret;exact⟨(k:Int),rfl,by rw[Ur bI (by have:=HB.o;simpa[rd]using this)];simp,rfl⟩
  ·go_wp2
   go_ret;refine⟨-1,rfl,?_,rfl⟩;have:k=xs.length:=by omega
   subst this;have h:=ht.o;rw[List.take_of_length_le (aU _)]at h;rw[h];rfl
theorem jZ(G:Nat)(p:Int->Bool)(hG: ∀x w,Sem.run prog (callFunc G #[.int .i64 x]) w= .ok (.enter G #[.int .i64 x]) w)(hp: ∀x w,Calls prog G #[.int .i64 x] w fun e w'=>e= .returned (.bool (p x))/\w=w')(A:Option Addr)(cA:Nat)(xs:List Int)(w:World)(hx:bf w A xs):
 Calls prog 133 #[.slice A xs.length cA,.func (.func G) #[] #[]] w fun e w'=>e= .returned (.bool (xs.any p))/\w=w':=by
 have HC:=hd (qN G p hG hp A cA xs w hx);clear hx hp hG
 go_enter func133,ntmps133
 go_wp2_with fail
 refine HC.o.mono ?_;rintro e w'⟨r,rfl,hr,rfl⟩;have HR:=hd hr;clear hr
 go_wp2_with fail
 go_ret;have hr:=HR.o;exact⟨by rw[<-hr];rfl,rfl⟩
def yP(x:Int):Bool:=(!decide (x=127)&& !decide (x=126))&& !decide (x=124)
theorem Ay(x:Int)(w:World):Calls prog 134 #[.int .i64 x] w fun e w'=>e= .returned (.bool (yP x))/\w=w':=by
 go_enter func134,ntmps134
 by_cases h1:x=127
 ·subst h1
  go_wp2
  go_ret;exact⟨rfl,rfl⟩
 ·by_cases h2:x=126
  ·subst h2
   go_wp2
   go_ret;exact⟨rfl,rfl⟩
  ·have Te:(x !=127)=true:=by simpa using h1
   have h2':(x !=126)=true:=by simpa using h2
   go_wp2
   go_ret;refine⟨?_,rfl⟩;simp[yP,h1,h2]
   try (first|rfl|(rw[Bool.eq_iff_iff];simp))
theorem Az(x:Int)(w:World):Sem.run prog (callFunc 134 #[.int .i64 x]) w= .ok (.enter 134 #[.int .i64 x]) w:=enters_of func134 (by kernel_rfl) rfl _ w
theorem gM(A:Option Addr)(cA:Nat)(xs:List Int)(w:World)(hx:bf w A xs):
 Calls prog 77 #[.slice A xs.length cA] w fun e w'=>e= .returned (.bool (!xs.any yP))/\w=w':=by
 have HC:=hd (jZ 134 yP Az Ay A cA xs w hx);clear hx
 go_enter func77,ntmps77
 go_wp2_with (first|(go_at_call 133;refine HC.o.mono ?_;rintro e w'⟨rfl,rfl⟩))
 go_ret;exact⟨rfl,rfl⟩
end Go.Proofs.YthehihjcpiadgaaGreat
namespace Go.Proofs.YthehihjcpiadgaaGreat
open Go.RowKit Go.Proofs.Wz.PrintWords
namespace Sp
def name(s:ByteArray):Bool:=decide (s.size<=64)&&text (bytesOf s)
def types(l:List Int):Bool:= !l.any yP
def typed(t:ig):Bool:=decide (t.f0.length<=8)&&(decide (t.f1.length<=8)&&(types t.f0&&types t.f1))
def index(n:Int):Bool:=decide (0<=n/\n<=2147483647)
def imported(x:iX):Bool:=name x.f0&&(name x.f1&&index x.f2)
def custom(x:jA):Bool:=name x.f0&&decide (x.f1.length<=1048576)
def memory(x:jw):Bool:=decide (0<=x.f0)&&(decide (x.f0<=x.f1)&&decide (x.f1<=512))
def jG(x:dV):Bool:=types [x.f0]&&(decide (x.f0≠127)||decide (x.f2<=4294967295))
def laid(d:eF):Bool:=(if d.f0 then within d.f1 0 3&&index d.f2 else decide (d.f1=0)&&decide (d.f2=0))&&decide (d.f3.length<=1048576)
def full(m:bL):Bool:=decide (64<m.f0.length\/256<m.f1.length+m.f2.length\/4<m.f3.length\/256<m.f4.length\/16<m.f6.length\/256<m.f5.length\/16<m.f7.length)
def lF(i:aW):Bool:=
 if opens i.f0 then within i.f1 (-4) 63 else if eD i.f0 then within i.f1 0 (4-1)&&decide (i.f3<=4294967295)
 else if dx i.f0≠0 then decide (i.f0≠65)||decide (i.f3<=4294967295)
 else if i.f0=12\/i.f0=13 then within i.f1 0 (65-1)
 else if i.f0=14 then decide (1<=(i.f4.length:Int))&&(decide ((i.f4.length:Int)<=17)&& !i.f4.any (fun x=> !within x 0 (65-1)))
 else if i.f0=16\/i.f0=18 then within i.f1 0 (256-1)
 else if 32<=i.f0/\i.f0<=36 then within i.f1 0 (256-1)
 else if i.f0=63\/i.f0=64\/i.f0=64523 then within i.f1 0 (4-1)
 else if i.f0=64520 then within i.f1 0 (4-1)&&within i.f2 0 (16-1)
 else if i.f0=64521 then within i.f1 0 (16-1)
 else if i.f0=64522 then within i.f1 0 (4-1)&&within i.f2 0 (4-1)
 else true
def fD(i:aW):Bool:=known i.f0&&(lF i&&((CD i.f0||decide (i.f1=0))&&((GL i.f0||decide (i.f2=0))&&((GM i.f0||decide (i.f3=0))&&(GN i.f0||decide ((i.f4.length:Int)=0))))))
def qO(f:iB):Bool:=index f.f0&&(decide (f.f1.length<=256)&&(types f.f1&&(decide (f.f2.length<=65536)&& !f.f2.any (fun i=> !fD i))))
def exported:List (List UInt8)->List jg->Bool
 |_,[]=>true
 |seen,x::l=> !decide (x.f0.data.toList∈seen)&&name x.f0&&decide (x.f1=0\/x.f1=2\/x.f1=3)&&index x.f2&&exported (x.f0.data.toList::seen) l
def right(m:bL):Int:=
 if full m then 13
 else if !m.f0.all typed|| !m.f1.all imported|| !exported [] m.f5|| !m.f7.all custom|| !m.f2.all qO|| !m.f3.all memory|| !m.f4.all jG|| !m.f6.all laid then 12
 else 0
end Sp
end Go.Proofs.YthehihjcpiadgaaGreat
section
namespace Go.Proofs.YthehihjcpiadgaaGreat
open Go.RowKit Go.Proofs.Wz.PrintWords
namespace Sp
def most(M:bL)(x:jg):Int:=if x.f1=2 then M.f3.length else if x.f1=3 then M.f4.length else(M.f1.length:Int)+M.f2.length
def Kq(M:bL):Bool:=(List.range (M.f1.length+M.f2.length)).all (fun k=>(aM M (k:Int)).isSome)
def Kr(M:bL):Bool:=M.f5.all (fun x=>within x.f2 0 (most M x-1))
def Us(M:bL):Bool:=M.f6.all (fun d=> !d.f0||within d.f1 0 ((M.f3.length:Int)-1))
def indices(M:bL):Bool:=Kq M&&(Kr M&&Us M)
theorem Ks{M:bL}(h: ∀j:Nat,j<M.f1.length+M.f2.length->(aM M (j:Int)).isSome=true):Kq M=true:=by
 unfold Kq;rw[List.all_eq_true];intro x hx;exact h x (List.mem_range.1 hx)
theorem G5{M:bL}(k:Nat)(hk:k<M.f1.length+M.f2.length)(h:(aM M (k:Int)).isSome=false):Kq M=false:=by
 unfold Kq;rw[List.all_eq_false];exact⟨k,List.mem_range.2 hk,by rw[h];simp⟩
theorem ow{α:Type}{p:α->Bool}{xs:List α}{k:Nat}{y:α}(h:(xs.take k).all p=true)(hx:k<xs.length)(z:α)(e:y=mh z xs (k:Int))(he:p y=true):(xs.take (k+1)).all p=true:=by
 subst e;rw[List.take_succ_eq_append_getElem hx,List.all_append,h];simp[mh,gq,hx]at he;simp[he]
theorem um{α:Type}{p:α->Bool}{xs:List α}{k:Nat}{y:α}(hx:k<xs.length)(z:α)(e:y=mh z xs (k:Int))(he:p y=false):xs.all p=false:=by
 subst e;rw[List.all_eq_false];simp[mh,gq,hx]at he;exact⟨xs[k],List.getElem_mem hx,by simp[he]⟩
end Sp
theorem sx(M:bL)(cs:List Value)(w:World)(hM:bZ.K w M cs)(n1:M.f1.length<=1000000)(n2:M.f2.length<=1000000)(n5:M.f5.length<=1000000)(n6:M.f6.length<=1000000)(hs:fh M.f0):Calls prog 39 #[.agg cs.toArray] w (aB (Sp.indices M) w):=by
 obtain⟨A0,c0,A1,c1,A2,c2,A3,c3,A4,c4,A5,c5,A6,c6,A7,c7,rfl,l0,g0,l1,g1,l2,g2,l3,g3,l4,g4,l5,g5,l6,g6,l7,g7⟩:=aD hM;have HM:=hd hM;have HS:=hd hs;have Gl:=hd g5;have HG6:=hd g6;clear hM hs l0 g0 l1 g1 l2 g2 l3 g3 l4 g4 l5 g5 l6 g6 l7 g7;have hw:wrap64 ((M.f1.length:Int)+(M.f2.length:Int))=(M.f1.length:Int)+(M.f2.length:Int):=Tx.xR (by omega) (by omega);have HW:=hd hw;clear hw
 go_enter func39,ntmps39
 have hw:=HW.o
 go_wp2_with fail
 clear hw
 go_loopw [18] (fun i wr=> ∃k:Nat,k<=M.f1.length+M.f2.length/\i= .int .i64 k/\Hid (∀j:Nat,j<k->(Sp.aM M (j:Int)).isSome=true)/\Hid (wr.heap[w.heap.size]? =some (.cells #[.slice A0 M.f0.length c0,.slice A1 M.f1.length c1,.slice A2 M.f2.length c2,.slice A3 M.f3.length c3,.slice A4 M.f4.length c4,.slice A5 M.f5.length c5,.slice A6 M.f6.length c6,.slice A7 M.f7.length c7] 37 (0,0)))/\Hid (Below w.heap.size w wr)) (fun i _=>M.f1.length+M.f2.length-(intOf i).toNat)
 case atStart=>exact⟨0,by omega,rfl,hd (fun j hj=>by omega),hd (dh w _),hd (af (ay _ _) _)⟩
 case round=>
  obtain⟨k,hk,rfl,ht,BK,HB⟩:=hrel;rename_i wr _;have Kt:=aj BK.o;obtain⟨y0,y1,y2,y3,y4,y5,y6,y7⟩:=c8 BK.o;by_cases bI:k<M.f1.length+M.f2.length
  ·have qd:(k:Int)<(M.f1.length:Int)+(M.f2.length:Int):=by omega
   have Ut:=hd (iF M _ (k:Int) wr (Kd.dJ bZ HB.o HM.o) n1 n2 HS.o (by omega) (by omega));obtain⟨o,ho⟩:=ex (Sp.aM M (k:Int));have HO:=hd ho;rw[<-ho]at Ut;clear ho;cases o with
   |none=>
    go_wp2_with (first|((go_at_call 84);(with_reducible refine Ut.o.mono ?_);rintro e w2⟨v1,v2,rfl,r1,r2,hb⟩;obtain⟨P1,k1,rfl⟩:=Kd.ai r1;obtain⟨P2,k2,rfl⟩:=Kd.ai r2;have bw:=hd hb;clear r1 r2 hb))
    go_ret;refine⟨?_,af (aA HB.o HB.o.size bw.o) _⟩;rw[show Sp.indices M=false by unfold Sp.indices;rw[Sp.G5 k bI (by rw[<-HO.o];rfl)];rfl];rfl
   |some t=>
    go_wp2_with (first|((go_at_call 84);(with_reducible refine Ut.o.mono ?_);rintro e w2⟨v1,v2,rfl,r1,r2,hb⟩;obtain⟨P1,k1,rfl⟩:=Kd.ai r1;obtain⟨P2,k2,rfl⟩:=Kd.ai r2;have bw:=hd hb;clear r1 r2 hb))
    go_roundw
    case rel=>exact⟨k+1,by omega,by go_num,hd (fun j hj=>by rcases Nat.lt_or_ge j k with h|h;exact ht.o j h;obtain rfl:j=k:=(by omega);rw[<-HO.o];rfl),hd (bh ((bw.o.block _ (aj BK.o)).trans BK.o) _),hd (af (aA HB.o HB.o.size bw.o) _)⟩
    case measure=>simp[intOf];omega
  ·have hge: ¬((k:Int)<(M.f1.length:Int)+(M.f2.length:Int)):=by omega
   have HA:=hd (Sp.Ks (M:=M) (fun j hj=>ht.o j (by omega)));clear ht bI hk
   go_wp2_with fail
   clear hge Kt y0 y1 y2 y3 y4 y5 y6 y7;obtain⟨wo,rfl⟩: ∃wo:World,wo=wr:=⟨_,rfl⟩
   go_loopw [33] (fun i wr=> ∃k:Nat,k<=M.f5.length/\i= .int .i64 k/\Hid ((M.f5.take k).all (fun x=>Sp.within x.f2 0 (Sp.most M x-1))=true)/\Hid (wr.heap[w.heap.size]? =some (.cells #[.slice A0 M.f0.length c0,.slice A1 M.f1.length c1,.slice A2 M.f2.length c2,.slice A3 M.f3.length c3,.slice A4 M.f4.length c4,.slice A5 M.f5.length c5,.slice A6 M.f6.length c6,.slice A7 M.f7.length c7] 37 (0,0)))/\Hid (Below w.heap.size w wr)) (fun i _=>M.f5.length-(intOf i).toNat)
   case atStart=>exact⟨0,by omega,rfl,hd rfl,BK,HB⟩
   case round=>
    clear BK HB;obtain⟨k,hk,rfl,ht,BK,HB⟩:=hrel;rename_i wr _;have Kt:=aj BK.o;obtain⟨y0,y1,y2,y3,y4,y5,y6,y7⟩:=c8 BK.o;by_cases bI:k<M.f5.length
    ·obtain⟨ad,rfl,e0,e1,e2⟩:=CG (Kd.bJ Gl.o HB.o) (k:Int) (by omega) (by omega)
     rw[dF]at e0 e1 e2;obtain⟨x,hx⟩:=ex (cu M.f5 (k:Int));rw[<-hx]at e0 e1 e2;have HX:=hd hx;clear hx;obtain⟨b,hb⟩:=ex (Sp.within x.f2 0 (Sp.most M x-1));have cE:=hd hb;clear hb;have w12:wrap64 ((M.f1.length:Int)+(M.f2.length:Int))=(M.f1.length:Int)+(M.f2.length:Int):=HW.o;by_cases k2:x.f1=2
     ·have q2:(x.f1==2)=true:=by simpa using k2
      have HT:=hd (show∀W,Calls prog 43 #[.int .i64 x.f2,.int .i64 (M.f3.length:Int)] W (fun e w'=>e= .returned (.bool b)/\W=w')from fun W=>by rw[cE.o,show Sp.most M x=(M.f3.length:Int) by unfold Sp.most;rw[if_pos k2]];exact bq _ _ W);clear k2;cases b with
      |false=>
       go_wp2_with (first|((go_at_call 43);(with_reducible refine(HT.o _).mono ?_);rintro e w'⟨rfl,rfl⟩))
       go_ret;refine⟨?_,af HB.o _⟩;rw[show Sp.indices M=false by unfold Sp.indices Sp.Kr;rw[Sp.um bI qJ rfl (by rw[show mh qJ M.f5 (k:Int)=x from HX.o.symm];exact cE.o.symm)];simp];rfl
      |true=>
       go_wp2_with (first|((go_at_call 43);(with_reducible refine(HT.o _).mono ?_);rintro e w'⟨rfl,rfl⟩))
       go_roundw
       case rel=>exact⟨k+1,by omega,by go_num,hd (Sp.ow ht.o bI qJ rfl (by rw[show mh qJ M.f5 (k:Int)=x from HX.o.symm];exact cE.o.symm)),hd (bh BK.o _),hd (af HB.o _)⟩
       case measure=>simp[intOf];omega
     ·have q2:(x.f1==2)=false:=by simpa using k2
      by_cases k3:x.f1=3
      ·have q3:(x.f1==3)=true:=by simpa using k3
       have HT:=hd (show∀W,Calls prog 43 #[.int .i64 x.f2,.int .i64 (M.f4.length:Int)] W (fun e w'=>e= .returned (.bool b)/\W=w')from fun W=>by rw[cE.o,show Sp.most M x=(M.f4.length:Int) by unfold Sp.most;rw[if_neg k2,if_pos k3]];exact bq _ _ W);clear k2 k3;cases b with
       |false=>
        go_wp2_with (first|((go_at_call 43);(with_reducible refine(HT.o _).mono ?_);rintro e w'⟨rfl,rfl⟩))
        go_ret;refine⟨?_,af HB.o _⟩;rw[show Sp.indices M=false by unfold Sp.indices Sp.Kr;rw[Sp.um bI qJ rfl (by rw[show mh qJ M.f5 (k:Int)=x from HX.o.symm];exact cE.o.symm)];simp];rfl
       |true=>
        go_wp2_with (first|((go_at_call 43);(with_reducible refine(HT.o _).mono ?_);rintro e w'⟨rfl,rfl⟩))
        go_roundw
        case rel=>exact⟨k+1,by omega,by go_num,hd (Sp.ow ht.o bI qJ rfl (by rw[show mh qJ M.f5 (k:Int)=x from HX.o.symm];exact cE.o.symm)),hd (bh BK.o _),hd (af HB.o _)⟩
        case measure=>simp[intOf];omega
      ·have q3:(x.f1==3)=false:=by simpa using k3
       have HT:=hd (show∀W,Calls prog 43 #[.int .i64 x.f2,.int .i64 ((M.f1.length:Int)+(M.f2.length:Int))] W (fun e w'=>e= .returned (.bool b)/\W=w')from fun W=>by rw[cE.o,show Sp.most M x=((M.f1.length:Int)+(M.f2.length:Int)) by unfold Sp.most;rw[if_neg k2,if_neg k3]];exact bq _ _ W);clear k2 k3;cases b with
       |false=>
        go_wp2_with (first|((go_at_call 43);(with_reducible refine(HT.o _).mono ?_);rintro e w'⟨rfl,rfl⟩))
        go_ret;refine⟨?_,af HB.o _⟩;rw[show Sp.indices M=false by unfold Sp.indices Sp.Kr;rw[Sp.um bI qJ rfl (by rw[show mh qJ M.f5 (k:Int)=x from HX.o.symm];exact cE.o.symm)];simp];rfl
       |true=>
        go_wp2_with (first|((go_at_call 43);(with_reducible refine(HT.o _).mono ?_);rintro e w'⟨rfl,rfl⟩))
        go_roundw
        case rel=>exact⟨k+1,by omega,by go_num,hd (Sp.ow ht.o bI qJ rfl (by rw[show mh qJ M.f5 (k:Int)=x from HX.o.symm];exact cE.o.symm)),hd (bh BK.o _),hd (af HB.o _)⟩
        case measure=>simp[intOf];omega
    ·have hge: ¬((k:Int)<(M.f5.length:Int)):=by omega
     have HBt:=hd (show Sp.Kr M=true by have h:=ht.o;rw[List.take_of_length_le (by omega)]at h;exact h);clear ht bI hk
     go_wp2_with fail
     clear hge Kt y0 y1 y2 y3 y4 y5 y6 y7;obtain⟨wq,rfl⟩: ∃wq:World,wq=wr:=⟨_,rfl⟩
     go_loopw [65] (fun i wr=> ∃k:Nat,k<=M.f6.length/\i= .int .i64 k/\Hid ((M.f6.take k).all (fun d=> !d.f0||Sp.within d.f1 0 ((M.f3.length:Int)-1))=true)/\Hid (wr.heap[w.heap.size]? =some (.cells #[.slice A0 M.f0.length c0,.slice A1 M.f1.length c1,.slice A2 M.f2.length c2,.slice A3 M.f3.length c3,.slice A4 M.f4.length c4,.slice A5 M.f5.length c5,.slice A6 M.f6.length c6,.slice A7 M.f7.length c7] 37 (0,0)))/\Hid (Below w.heap.size w wr)) (fun i _=>M.f6.length-(intOf i).toNat)
     case atStart=>exact⟨0,by omega,rfl,hd rfl,BK,HB⟩
     case round=>
      clear BK HB;obtain⟨k,hk,rfl,ht,BK,HB⟩:=hrel;rename_i wr _;have Kt:=aj BK.o;obtain⟨y0,y1,y2,y3,y4,y5,y6,y7⟩:=c8 BK.o;by_cases bI:k<M.f6.length
      ·obtain⟨ad,A9,c9,rfl,e0,e1,e2,e3,-⟩:=yE (Kd.bJ HG6.o HB.o) (k:Int) (by omega) (by omega)
       rw[dF]at e0 e1 e2 e3;obtain⟨x,hx⟩:=ex (iO M.f6 (k:Int));rw[<-hx]at e0 e1 e2 e3;have HX:=hd hx;clear hx;obtain⟨b,hb⟩:=ex (Sp.within x.f1 0 ((M.f3.length:Int)-1));have cE:=hd hb;clear hb;have HT:=hd (show∀W,Calls prog 43 #[.int .i64 x.f1,.int .i64 (M.f3.length:Int)] W (fun e w'=>e= .returned (.bool b)/\W=w')from fun W=>by rw[cE.o];exact bq _ _ W);obtain⟨a,ha⟩:=ex x.f0;rw[<-ha]at e0;have HA0:=hd ha;clear ha;cases a with
       |false=>
        go_wp2_with fail
        go_roundw
        case rel=>exact⟨k+1,by omega,by go_num,hd (Sp.ow ht.o bI qH rfl (by rw[show mh qH M.f6 (k:Int)=x from HX.o.symm,<-HA0.o];rfl)),hd (bh BK.o _),hd (af HB.o _)⟩
        case measure=>simp[intOf];omega
       |true=>
        cases b with
        |false=>
         go_wp2_with (first|((go_at_call 43);(with_reducible refine(HT.o _).mono ?_);rintro e w'⟨rfl,rfl⟩))
         go_ret;refine⟨?_,af HB.o _⟩;rw[show Sp.indices M=false by unfold Sp.indices Sp.Us;rw[Sp.um bI qH rfl (by rw[show mh qH M.f6 (k:Int)=x from HX.o.symm,<-HA0.o,<-cE.o];rfl)];simp];rfl
        |true=>
         go_wp2_with (first|((go_at_call 43);(with_reducible refine(HT.o _).mono ?_);rintro e w'⟨rfl,rfl⟩))
         go_roundw
         case rel=>exact⟨k+1,by omega,by go_num,hd (Sp.ow ht.o bI qH rfl (by rw[show mh qH M.f6 (k:Int)=x from HX.o.symm,<-HA0.o,<-cE.o];rfl)),hd (bh BK.o _),hd (af HB.o _)⟩
         case measure=>simp[intOf];omega
      ·have hge: ¬((k:Int)<(M.f6.length:Int)):=by omega
       have HCt:=hd (show Sp.Us M=true by have h:=ht.o;rw[List.take_of_length_le (by omega)]at h;exact h)
       go_wp2_with fail
       go_ret;refine⟨?_,HB.o⟩;rw[show Sp.indices M=true by unfold Sp.indices;rw[HA.o,HBt.o,HCt.o];rfl];rfl
end Go.Proofs.YthehihjcpiadgaaGreat
end
section
namespace Go.Proofs.YthehihjcpiadgaaGreat
open Go.RowKit Go.Proofs.Wz.PrintWords
namespace Sp
def iH(M:bL)(x:jg):Bool:=decide (x.f1=3)&&(dg M.f4 x.f2).f1
def iI(M:bL):Bool:=M.f0.all (fun t=> !decide (1<(t.f1.length:Int)))&&(M.f6.all (fun d=>d.f0)&&(M.f5.all (fun x=> !iH M x)&&decide ((M.f3.length:Int)<=1)))
theorem yQ{α:Type}(p:α->Bool)(xs:List α)(k:Nat)(z:α)(h:k<xs.length):(xs.drop k).all p=(p (mh z xs (k:Int))&&(xs.drop (k+1)).all p):=by
 rw[List.drop_eq_getElem_cons h,List.all_cons];simp[mh,gq,h]
end Sp
theorem EK{M:bL}(h:Sp.indices M=true)(k:Nat)(hk:k<M.f5.length)(h3:(cu M.f5 (k:Int)).f1=3):0<=(cu M.f5 (k:Int)).f2/\(cu M.f5 (k:Int)).f2<M.f4.length:=by
 unfold Sp.indices Sp.Kr at h;simp only[Bool.and_eq_true,List.all_eq_true]at h
 have hm:cu M.f5 (k:Int)∈M.f5:=by
  have e:cu M.f5 (k:Int)=M.f5[k]:=by simp[cu,gq,hk]
  rw[e];exact List.getElem_mem hk
 have h5:=h.2.1 _ hm;have e3:Sp.most M (cu M.f5 (k:Int))=M.f4.length:=by unfold Sp.most;rw[if_neg (by omega),if_pos h3]
 rw[e3]at h5;simp only[Sp.within,decide_eq_true_eq]at h5;omega
theorem qP(M:bL)(cs:List Value)(w:World)(hM:bZ.K w M cs)(hi:Sp.indices M=true)(hl:M.f5.length<=1000)(hl6:M.f6.length<=1000)(hl0:M.f0.length<=1000):Calls prog 40 #[.agg cs.toArray] w (aB (Sp.iI M) w):=by
 obtain⟨A0,c0,A1,c1,A2,c2,A3,c3,A4,c4,A5,c5,A6,c6,A7,c7,rfl,l0,g0,l1,g1,l2,g2,l3,g3,l4,g4,l5,g5,l6,g6,l7,g7⟩:=aD hM;have HEX:=hd (fun k hk h3=>EK hi k hk h3);have HG0:=hd g0;have HG4:=hd g4;have Gl:=hd g5;have HG6:=hd g6;have HX:Hid (Sp.iI M=((M.f0.drop 0).all (fun t=> !decide (1<(t.f1.length:Int)))&&(M.f6.all (fun d=>d.f0)&&(M.f5.all (fun x=> !Sp.iH M x)&&decide ((M.f3.length:Int)<=1))))):=hd rfl;have BK:Hid ((w.alloc (.cells #[.slice A0 M.f0.length c0,.slice A1 M.f1.length c1,.slice A2 M.f2.length c2,.slice A3 M.f3.length c3,.slice A4 M.f4.length c4,.slice A5 M.f5.length c5,.slice A6 M.f6.length c6,.slice A7 M.f7.length c7] 37)).heap[w.heap.size]? =some (.cells #[.slice A0 M.f0.length c0,.slice A1 M.f1.length c1,.slice A2 M.f2.length c2,.slice A3 M.f3.length c3,.slice A4 M.f4.length c4,.slice A5 M.f5.length c5,.slice A6 M.f6.length c6,.slice A7 M.f7.length c7] 37 (0,0))):=hd (dh w _);have HB:=hd (af (ay _ w) (.cells #[.slice A0 M.f0.length c0,.slice A1 M.f1.length c1,.slice A2 M.f2.length c2,.slice A3 M.f3.length c3,.slice A4 M.f4.length c4,.slice A5 M.f5.length c5,.slice A6 M.f6.length c6,.slice A7 M.f7.length c7] 37));clear hM hi l0 g0 l1 g1 l2 g2 l3 g3 l4 g4 l5 g5 l6 g6 l7 g7
 go_enter func40,ntmps40
 go_wp2_with fail
 go_loopw [12] (fun i wr=> ∃k:Nat,k<=M.f0.length/\i= .int .i64 k/\Hid (Sp.iI M=((M.f0.drop k).all (fun t=> !decide (1<(t.f1.length:Int)))&&(M.f6.all (fun d=>d.f0)&&(M.f5.all (fun x=> !Sp.iH M x)&&decide ((M.f3.length:Int)<=1)))))/\Hid (wr.heap[w.heap.size]? =some (.cells #[.slice A0 M.f0.length c0,.slice A1 M.f1.length c1,.slice A2 M.f2.length c2,.slice A3 M.f3.length c3,.slice A4 M.f4.length c4,.slice A5 M.f5.length c5,.slice A6 M.f6.length c6,.slice A7 M.f7.length c7] 37 (0,0)))/\Hid (Below w.heap.size w wr)) (fun i _=>M.f0.length-(intOf i).toNat)
 case atStart=>exact⟨0,by omega,rfl,HX,BK,HB⟩
 case round=>
  clear HX BK HB;obtain⟨k,hk,rfl,HX,BK,HB⟩:=hrel;rename_i wr _;by_cases bI:k<M.f0.length
  ·obtain⟨ad,B0,d0,B1,d1,rfl,x0,x1,-,-,-,-⟩:=qF (Kd.bJ HG0.o HB.o) (k:Int) (by omega) (by omega)
   rw[dF]at x0 x1;have hs:=Sp.yQ (fun t=> !decide (1<(t.f1.length:Int))) M.f0 k cv bI;obtain⟨x,hx⟩:=ex (cD M.f0 (k:Int));replace hs:((M.f0.drop k).all (fun t=> !decide (1<(t.f1.length:Int))))=(!decide (1<(x.f1.length:Int))&&(M.f0.drop (k+1)).all (fun t=> !decide (1<(t.f1.length:Int)))):=by rw[hx];exact hs
   rw[<-hx]at x0 x1;clear hx;by_cases h1:1<(x.f1.length:Int)
   ·have HR:=hd (show Sp.iI M=false from HX.o.trans (by rw[hs,iz h1];rfl))
    have w1:((x.f1.length:Int)>1):=h1;clear hs
    go_wp2_with fail
    go_ret;exact⟨by rw[HR.o];rfl,af HB.o _⟩
   ·have HN:=hd (show Sp.iI M=((M.f0.drop (k+1)).all (fun t=> !decide (1<(t.f1.length:Int)))&&(M.f6.all (fun d=>d.f0)&&(M.f5.all (fun x=> !Sp.iH M x)&&decide ((M.f3.length:Int)<=1))))from HX.o.trans (by rw[hs,jP h1];rfl))
    have w1:decide ((x.f1.length:Int)>1)=false:=jP h1;clear hs
    go_wp2_with fail
    go_roundw
    case rel=>exact⟨k+1,by omega,by go_num,HN,hd (bh BK.o _),hd (af HB.o _)⟩
    case measure=>simp[intOf];omega
  ·have hge:decide ((k:Int)<(M.f0.length:Int))=false:=by simp only[iy];omega
   obtain rfl:k=M.f0.length:=by omega
   replace HX:=hd (HX.o.trans (by rw[List.drop_length];rfl:_=(M.f6.all (fun d=>d.f0)&&(M.f5.all (fun x=> !Sp.iH M x)&&decide ((M.f3.length:Int)<=1)))));have Kt:=aj BK.o;have y6:=(aa BK.o 6).trans rfl
   go_wp2_with fail
   clear y6
   go_loopw [24] (fun i wr=> ∃k:Nat,k<=M.f6.length/\i= .int .i64 k/\Hid (Sp.iI M=((M.f6.drop k).all (fun d=>d.f0)&&(M.f5.all (fun x=> !Sp.iH M x)&&decide ((M.f3.length:Int)<=1))))/\Hid (wr.heap[w.heap.size]? =some (.cells #[.slice A0 M.f0.length c0,.slice A1 M.f1.length c1,.slice A2 M.f2.length c2,.slice A3 M.f3.length c3,.slice A4 M.f4.length c4,.slice A5 M.f5.length c5,.slice A6 M.f6.length c6,.slice A7 M.f7.length c7] 37 (0,0)))/\Hid (Below w.heap.size w wr)) (fun i _=>M.f6.length-(intOf i).toNat)
   case atStart=>exact⟨0,by omega,rfl,HX,BK,HB⟩
   case round=>
    clear HX BK HB;obtain⟨k,hk,rfl,HX,BK,HB⟩:=hrel;rename_i wr _;by_cases bI:k<M.f6.length
    ·obtain⟨ad,A3',c3',rfl,x0,x1,x2,x3,-,-⟩:=yE (Kd.bJ HG6.o HB.o) (k:Int) (by omega) (by omega)
     rw[dF]at x0 x1 x2 x3;have hs:=Sp.yQ (fun d=>d.f0) M.f6 k qH bI;obtain⟨x,hx⟩:=ex (iO M.f6 (k:Int));replace hs:((M.f6.drop k).all (fun d=>d.f0))=(x.f0&&(M.f6.drop (k+1)).all (fun d=>d.f0)):=by rw[hx];exact hs
     rw[<-hx]at x0 x1 x2 x3;clear hx;obtain⟨b,hb⟩:=ex x.f0;rw[<-hb]at x0 hs;clear hb;cases b with
     |false=>
      have HR:=hd (show Sp.iI M=false from HX.o.trans (by rw[hs];rfl));clear hs
      go_wp2_with fail
      go_ret;exact⟨by rw[HR.o];rfl,af HB.o _⟩
     |true=>
      have HN:=hd (show Sp.iI M=((M.f6.drop (k+1)).all (fun d=>d.f0)&&(M.f5.all (fun x=> !Sp.iH M x)&&decide ((M.f3.length:Int)<=1)))from HX.o.trans (by rw[hs];rfl));clear hs
      go_wp2_with fail
      go_roundw
      case rel=>exact⟨k+1,by omega,by go_num,HN,hd (bh BK.o _),hd (af HB.o _)⟩
      case measure=>simp[intOf];omega
    ·have hge:decide ((k:Int)<(M.f6.length:Int))=false:=by simp only[iy];omega
     obtain rfl:k=M.f6.length:=by omega
     replace HX:=hd (HX.o.trans (by rw[List.drop_length];rfl:_=(M.f5.all (fun x=> !Sp.iH M x)&&decide ((M.f3.length:Int)<=1))));have Kt:=aj BK.o;have y5:=(aa BK.o 5).trans rfl
     go_wp2_with fail
     clear y5
     go_loopw [35] (fun i wr=> ∃k:Nat,k<=M.f5.length/\i= .int .i64 k/\Hid (Sp.iI M=((M.f5.drop k).all (fun x=> !Sp.iH M x)&&decide ((M.f3.length:Int)<=1)))/\Hid (wr.heap[w.heap.size]? =some (.cells #[.slice A0 M.f0.length c0,.slice A1 M.f1.length c1,.slice A2 M.f2.length c2,.slice A3 M.f3.length c3,.slice A4 M.f4.length c4,.slice A5 M.f5.length c5,.slice A6 M.f6.length c6,.slice A7 M.f7.length c7] 37 (0,0)))/\Hid (Below w.heap.size w wr)) (fun i _=>M.f5.length-(intOf i).toNat)
     case atStart=>exact⟨0,by omega,rfl,HX,BK,HB⟩
     case round=>
      clear HX BK HB;obtain⟨k,hk,rfl,HX,BK,HB⟩:=hrel;rename_i wr _;by_cases bI:k<M.f5.length
      ·obtain⟨ad,rfl,x0,x1,x2⟩:=CG (Kd.bJ Gl.o HB.o) (k:Int) (by omega) (by omega)
       rw[dF]at x0 x1 x2;have y4:=(aa (bh BK.o (.cells #[.string (cu M.f5 k).f0,.int .i64 (cu M.f5 k).f1,.int .i64 (cu M.f5 k).f2] 86)) 4).trans rfl;have HI:=hd (HEX.o k bI);have wl:=aj BK.o;have hs:=Sp.yQ (fun x=> !Sp.iH M x) M.f5 k qJ bI;obtain⟨x,hx⟩:=ex (cu M.f5 (k:Int));replace hs:((M.f5.drop k).all (fun x=> !Sp.iH M x))=(!Sp.iH M x&&(M.f5.drop (k+1)).all (fun x=> !Sp.iH M x)):=by rw[hx];exact hs
       rw[<-hx]at x0 x1 x2 y4 HI;clear hx;by_cases h3:x.f1=3
       ·obtain⟨i0,i1⟩:=HI.o h3
        obtain⟨gd,rfl,-,g1,-⟩:=qG (Kd.bJ HG4.o HB.o) x.f2 i0 i1;replace g1:=ak (o:= .cells #[.string x.f0,.int .i64 x.f1,.int .i64 x.f2] 86) g1;have w3:(x.f1==3)=true:=by simpa using h3
        obtain⟨b,hb⟩:=ex ((dg M.f4 x.f2).f1);rw[<-hb]at g1;have hv:Sp.iH M x=b:=by rw[hb];simp[Sp.iH,h3]
        clear hb h3 HI;cases b with
        |true=>
         have HR:=hd (show Sp.iI M=false from HX.o.trans (by rw[hs,hv];simp));clear hs hv
         go_wp2_with fail
         go_ret;exact⟨by rw[HR.o];rfl,af HB.o _⟩
        |false=>
         have HN:=hd (show Sp.iI M=((M.f5.drop (k+1)).all (fun x=> !Sp.iH M x)&&decide ((M.f3.length:Int)<=1))from HX.o.trans (by rw[hs,hv];rfl));clear hs hv
         go_wp2_with fail
         go_roundw
         case rel=>exact⟨k+1,by omega,by go_num,HN,hd (bh BK.o _),hd (af HB.o _)⟩
         case measure=>simp[intOf];omega
       ·have w3:(x.f1==3)=false:=by simpa using h3
        have hv:Sp.iH M x=false:=by simp[Sp.iH,h3]
        have HN:=hd (show Sp.iI M=((M.f5.drop (k+1)).all (fun x=> !Sp.iH M x)&&decide ((M.f3.length:Int)<=1))from HX.o.trans (by rw[hs,hv];rfl));clear hs hv h3 HI
        go_wp2_with fail
        go_roundw
        case rel=>exact⟨k+1,by omega,by go_num,HN,hd (bh BK.o _),hd (af HB.o _)⟩
        case measure=>simp[intOf];omega
      ·have hge:decide ((k:Int)<(M.f5.length:Int))=false:=by simp only[iy];omega
       obtain rfl:k=M.f5.length:=by omega
       replace HX:=hd (HX.o.trans (by rw[List.drop_length];rfl:_=decide ((M.f3.length:Int)<=1)));have Kt:=aj BK.o;have y3:=(aa BK.o 3).trans rfl
       go_wp2_with fail
       go_ret;exact⟨by rw[HX.o];rfl,HB.o⟩
end Go.Proofs.YthehihjcpiadgaaGreat
end
namespace Go.Proofs.YthehihjcpiadgaaGreat
open Go.RowKit Go.Proofs.Wz.PrintWords Go.Proofs.Wz.bM
theorem xg(x:Int)(w:World):Calls prog 213 #[.int .i64 x] w fun e w'=>e= .returned (.bool (!Sp.within x 0 (65-1)))/\w=w':=by
 go_enter func213,ntmps213
 go_wp2_with (first|(go_at_call 137;refine(aT _ _ _).mono ?_;rintro e w'⟨rfl,rfl⟩))
 go_ret;exact⟨rfl,rfl⟩
theorem xh(x:Int)(w:World):Sem.run prog (callFunc 213 #[.int .i64 x]) w= .ok (.enter 213 #[.int .i64 x]) w:=enters_of func213 (by kernel_rfl) rfl _ w
theorem uo(A:Option Addr)(cA:Nat)(xs:List Int)(w:World)(hx:bf w A xs):
 Calls prog 133 #[.slice A xs.length cA,.func (.func 213) #[] #[]] w fun e w'=>e= .returned (.bool (xs.any fun x=> !Sp.within x 0 (65-1)))/\w=w':=
 jZ 213 (fun x=> !Sp.within x 0 (65-1)) xh xg A cA xs w hx
def dz(a b n l ok:Bool)(w:World)(e:Ending)(w':World):Prop:=e= .returned (.tuple #[.agg #[.bool a,.bool b,.bool n,.bool l],.bool ok])/\Below w.heap.size w w'
theorem eX(op n t:Int)(s b:Bool)(h:Sp.mW op=n/\Sp.jX op=t/\Sp.tN op=s/\Sp.eD op=b:=by exact⟨rfl,rfl,rfl,rfl⟩):Hid (∀w,Calls prog 88 #[.int .i64 op] w (fun e w'=>e= .returned (.tuple #[.int .i64 n,.int .i64 t,.bool s,.bool b])/\w=w')):=by
 obtain⟨rfl,rfl,rfl,rfl⟩:=h;exact hd (jh op)
theorem eY(op n:Int)(b:Bool)(h:Sp.dx op=n/\decide (Sp.dx op≠0)=b:=by exact⟨rfl,rfl⟩):Hid (∀w,Calls prog 152 #[.int .i64 op] w (fun e w'=>e= .returned (.tuple #[.int .i64 n,.bool b])/\w=w')):=by
 obtain⟨rfl,rfl⟩:=h;exact hd (ot op)
theorem eZ(op:Int)(b:Bool)(h:Sp.opens op=b:=by rfl):Hid (∀w,Calls prog 87 #[.int .i64 op] w (fun e w'=>e= .returned (.bool b)/\w=w')):=by
 subst h;exact hd (gK op)
theorem bel{w w':World}(h:Below w.heap.size w w':=by repeat (first|exact ay _ _|refine af ?_ _|refine aN ?_|refine aq ?_ _|refine aK ?_ (by first|omega|(simp;done)))):Below w.heap.size w w':=h
theorem Nh(a b n:Int)(xs:List Int)(A:Option Addr)(c:Nat)(w:World)(hx:bf w A xs):Calls prog 177 #[.agg #[.int .i64 12,.int .i64 a,.int .i64 b,.int .u64 n,.slice A xs.length c]] w (dz true false false false (Sp.within a 0 (65-1)) w):=by
 have H1:=eX 12 0 0 false false;have H2:=eY 12 0 false;have H3:=eZ 12 false;clear hx
 go_enter func177,ntmps177
 go_wp2_with (first|(go_at_call 88;with_reducible refine(H1.o _).mono ?_;rintro e w'⟨rfl,rfl⟩)|(go_at_call 152;with_reducible refine(H2.o _).mono ?_;rintro e w'⟨rfl,rfl⟩)|(go_at_call 87;with_reducible refine(H3.o _).mono ?_;rintro e w'⟨rfl,rfl⟩)|(go_at_call 137;with_reducible refine(aT _ _ _).mono ?_;rintro e w'⟨rfl,rfl⟩))
 refine bodyPost_ret (v:=_) (by simp[results,results177,go_sem]<;>rfl) rfl ?_;refine⟨rfl,bel⟩
theorem Nk(a b n:Int)(xs:List Int)(A:Option Addr)(c:Nat)(w:World)(hx:bf w A xs):Calls prog 177 #[.agg #[.int .i64 13,.int .i64 a,.int .i64 b,.int .u64 n,.slice A xs.length c]] w (dz true false false false (Sp.within a 0 (65-1)) w):=by
 have H1:=eX 13 0 0 false false;have H2:=eY 13 0 false;have H3:=eZ 13 false;clear hx
 go_enter func177,ntmps177
 go_wp2_with (first|(go_at_call 88;with_reducible refine(H1.o _).mono ?_;rintro e w'⟨rfl,rfl⟩)|(go_at_call 152;with_reducible refine(H2.o _).mono ?_;rintro e w'⟨rfl,rfl⟩)|(go_at_call 87;with_reducible refine(H3.o _).mono ?_;rintro e w'⟨rfl,rfl⟩)|(go_at_call 137;with_reducible refine(aT _ _ _).mono ?_;rintro e w'⟨rfl,rfl⟩))
 refine bodyPost_ret (v:=_) (by simp[results,results177,go_sem]<;>rfl) rfl ?_;refine⟨rfl,bel⟩
theorem Nl(a b n:Int)(xs:List Int)(A:Option Addr)(c:Nat)(w:World)(hx:bf w A xs):Calls prog 177 #[.agg #[.int .i64 16,.int .i64 a,.int .i64 b,.int .u64 n,.slice A xs.length c]] w (dz true false false false (Sp.within a 0 (256-1)) w):=by
 have H1:=eX 16 0 0 false false;have H2:=eY 16 0 false;have H3:=eZ 16 false;clear hx
 go_enter func177,ntmps177
 go_wp2_with (first|(go_at_call 88;with_reducible refine(H1.o _).mono ?_;rintro e w'⟨rfl,rfl⟩)|(go_at_call 152;with_reducible refine(H2.o _).mono ?_;rintro e w'⟨rfl,rfl⟩)|(go_at_call 87;with_reducible refine(H3.o _).mono ?_;rintro e w'⟨rfl,rfl⟩)|(go_at_call 137;with_reducible refine(aT _ _ _).mono ?_;rintro e w'⟨rfl,rfl⟩))
 refine bodyPost_ret (v:=_) (by simp[results,results177,go_sem]<;>rfl) rfl ?_;refine⟨rfl,bel⟩
theorem Nn(a b n:Int)(xs:List Int)(A:Option Addr)(c:Nat)(w:World)(hx:bf w A xs):Calls prog 177 #[.agg #[.int .i64 18,.int .i64 a,.int .i64 b,.int .u64 n,.slice A xs.length c]] w (dz true false false false (Sp.within a 0 (256-1)) w):=by
 have H1:=eX 18 0 0 false false;have H2:=eY 18 0 false;have H3:=eZ 18 false;clear hx
 go_enter func177,ntmps177
 go_wp2_with (first|(go_at_call 88;with_reducible refine(H1.o _).mono ?_;rintro e w'⟨rfl,rfl⟩)|(go_at_call 152;with_reducible refine(H2.o _).mono ?_;rintro e w'⟨rfl,rfl⟩)|(go_at_call 87;with_reducible refine(H3.o _).mono ?_;rintro e w'⟨rfl,rfl⟩)|(go_at_call 137;with_reducible refine(aT _ _ _).mono ?_;rintro e w'⟨rfl,rfl⟩))
 refine bodyPost_ret (v:=_) (by simp[results,results177,go_sem]<;>rfl) rfl ?_;refine⟨rfl,bel⟩
theorem Np(a b n:Int)(xs:List Int)(A:Option Addr)(c:Nat)(w:World)(hx:bf w A xs):Calls prog 177 #[.agg #[.int .i64 32,.int .i64 a,.int .i64 b,.int .u64 n,.slice A xs.length c]] w (dz true false false false (Sp.within a 0 (256-1)) w):=by
 have H1:=eX 32 0 0 false false;have H2:=eY 32 0 false;have H3:=eZ 32 false;clear hx
 go_enter func177,ntmps177
 go_wp2_with (first|(go_at_call 88;with_reducible refine(H1.o _).mono ?_;rintro e w'⟨rfl,rfl⟩)|(go_at_call 152;with_reducible refine(H2.o _).mono ?_;rintro e w'⟨rfl,rfl⟩)|(go_at_call 87;with_reducible refine(H3.o _).mono ?_;rintro e w'⟨rfl,rfl⟩)|(go_at_call 137;with_reducible refine(aT _ _ _).mono ?_;rintro e w'⟨rfl,rfl⟩))
 refine bodyPost_ret (v:=_) (by simp[results,results177,go_sem]<;>rfl) rfl ?_;refine⟨rfl,bel⟩
theorem Nq(a b n:Int)(xs:List Int)(A:Option Addr)(c:Nat)(w:World)(hx:bf w A xs):Calls prog 177 #[.agg #[.int .i64 33,.int .i64 a,.int .i64 b,.int .u64 n,.slice A xs.length c]] w (dz true false false false (Sp.within a 0 (256-1)) w):=by
 have H1:=eX 33 0 0 false false;have H2:=eY 33 0 false;have H3:=eZ 33 false;clear hx
 go_enter func177,ntmps177
 go_wp2_with (first|(go_at_call 88;with_reducible refine(H1.o _).mono ?_;rintro e w'⟨rfl,rfl⟩)|(go_at_call 152;with_reducible refine(H2.o _).mono ?_;rintro e w'⟨rfl,rfl⟩)|(go_at_call 87;with_reducible refine(H3.o _).mono ?_;rintro e w'⟨rfl,rfl⟩)|(go_at_call 137;with_reducible refine(aT _ _ _).mono ?_;rintro e w'⟨rfl,rfl⟩))
 refine bodyPost_ret (v:=_) (by simp[results,results177,go_sem]<;>rfl) rfl ?_;refine⟨rfl,bel⟩
theorem Nr(a b n:Int)(xs:List Int)(A:Option Addr)(c:Nat)(w:World)(hx:bf w A xs):Calls prog 177 #[.agg #[.int .i64 34,.int .i64 a,.int .i64 b,.int .u64 n,.slice A xs.length c]] w (dz true false false false (Sp.within a 0 (256-1)) w):=by
 have H1:=eX 34 0 0 false false;have H2:=eY 34 0 false;have H3:=eZ 34 false;clear hx
 go_enter func177,ntmps177
 go_wp2_with (first|(go_at_call 88;with_reducible refine(H1.o _).mono ?_;rintro e w'⟨rfl,rfl⟩)|(go_at_call 152;with_reducible refine(H2.o _).mono ?_;rintro e w'⟨rfl,rfl⟩)|(go_at_call 87;with_reducible refine(H3.o _).mono ?_;rintro e w'⟨rfl,rfl⟩)|(go_at_call 137;with_reducible refine(aT _ _ _).mono ?_;rintro e w'⟨rfl,rfl⟩))
 refine bodyPost_ret (v:=_) (by simp[results,results177,go_sem]<;>rfl) rfl ?_;refine⟨rfl,bel⟩
theorem Ns(a b n:Int)(xs:List Int)(A:Option Addr)(c:Nat)(w:World)(hx:bf w A xs):Calls prog 177 #[.agg #[.int .i64 35,.int .i64 a,.int .i64 b,.int .u64 n,.slice A xs.length c]] w (dz true false false false (Sp.within a 0 (256-1)) w):=by
 have H1:=eX 35 0 0 false false;have H2:=eY 35 0 false;have H3:=eZ 35 false;clear hx
 go_enter func177,ntmps177
 go_wp2_with (first|(go_at_call 88;with_reducible refine(H1.o _).mono ?_;rintro e w'⟨rfl,rfl⟩)|(go_at_call 152;with_reducible refine(H2.o _).mono ?_;rintro e w'⟨rfl,rfl⟩)|(go_at_call 87;with_reducible refine(H3.o _).mono ?_;rintro e w'⟨rfl,rfl⟩)|(go_at_call 137;with_reducible refine(aT _ _ _).mono ?_;rintro e w'⟨rfl,rfl⟩))
 refine bodyPost_ret (v:=_) (by simp[results,results177,go_sem]<;>rfl) rfl ?_;refine⟨rfl,bel⟩
theorem Nt(a b n:Int)(xs:List Int)(A:Option Addr)(c:Nat)(w:World)(hx:bf w A xs):Calls prog 177 #[.agg #[.int .i64 36,.int .i64 a,.int .i64 b,.int .u64 n,.slice A xs.length c]] w (dz true false false false (Sp.within a 0 (256-1)) w):=by
 have H1:=eX 36 0 0 false false;have H2:=eY 36 0 false;have H3:=eZ 36 false;clear hx
 go_enter func177,ntmps177
 go_wp2_with (first|(go_at_call 88;with_reducible refine(H1.o _).mono ?_;rintro e w'⟨rfl,rfl⟩)|(go_at_call 152;with_reducible refine(H2.o _).mono ?_;rintro e w'⟨rfl,rfl⟩)|(go_at_call 87;with_reducible refine(H3.o _).mono ?_;rintro e w'⟨rfl,rfl⟩)|(go_at_call 137;with_reducible refine(aT _ _ _).mono ?_;rintro e w'⟨rfl,rfl⟩))
 refine bodyPost_ret (v:=_) (by simp[results,results177,go_sem]<;>rfl) rfl ?_;refine⟨rfl,bel⟩
theorem Nu(a b n:Int)(xs:List Int)(A:Option Addr)(c:Nat)(w:World)(hx:bf w A xs):Calls prog 177 #[.agg #[.int .i64 63,.int .i64 a,.int .i64 b,.int .u64 n,.slice A xs.length c]] w (dz true false false false (Sp.within a 0 (4-1)) w):=by
 have H1:=eX 63 0 0 false false;have H2:=eY 63 0 false;have H3:=eZ 63 false;clear hx
 go_enter func177,ntmps177
 go_wp2_with (first|(go_at_call 88;with_reducible refine(H1.o _).mono ?_;rintro e w'⟨rfl,rfl⟩)|(go_at_call 152;with_reducible refine(H2.o _).mono ?_;rintro e w'⟨rfl,rfl⟩)|(go_at_call 87;with_reducible refine(H3.o _).mono ?_;rintro e w'⟨rfl,rfl⟩)|(go_at_call 137;with_reducible refine(aT _ _ _).mono ?_;rintro e w'⟨rfl,rfl⟩))
 refine bodyPost_ret (v:=_) (by simp[results,results177,go_sem]<;>rfl) rfl ?_;refine⟨rfl,bel⟩
theorem Nv(a b n:Int)(xs:List Int)(A:Option Addr)(c:Nat)(w:World)(hx:bf w A xs):Calls prog 177 #[.agg #[.int .i64 64,.int .i64 a,.int .i64 b,.int .u64 n,.slice A xs.length c]] w (dz true false false false (Sp.within a 0 (4-1)) w):=by
 have H1:=eX 64 0 0 false false;have H2:=eY 64 0 false;have H3:=eZ 64 false;clear hx
 go_enter func177,ntmps177
 go_wp2_with (first|(go_at_call 88;with_reducible refine(H1.o _).mono ?_;rintro e w'⟨rfl,rfl⟩)|(go_at_call 152;with_reducible refine(H2.o _).mono ?_;rintro e w'⟨rfl,rfl⟩)|(go_at_call 87;with_reducible refine(H3.o _).mono ?_;rintro e w'⟨rfl,rfl⟩)|(go_at_call 137;with_reducible refine(aT _ _ _).mono ?_;rintro e w'⟨rfl,rfl⟩))
 refine bodyPost_ret (v:=_) (by simp[results,results177,go_sem]<;>rfl) rfl ?_;refine⟨rfl,bel⟩
theorem EL(a b n:Int)(xs:List Int)(A:Option Addr)(c:Nat)(w:World)(hx:bf w A xs):Calls prog 177 #[.agg #[.int .i64 64523,.int .i64 a,.int .i64 b,.int .u64 n,.slice A xs.length c]] w (dz true false false false (Sp.within a 0 (4-1)) w):=by
 have H1:=eX 64523 0 0 false false;have H2:=eY 64523 0 false;have H3:=eZ 64523 false;clear hx
 go_enter func177,ntmps177
 go_wp2_with (first|(go_at_call 88;with_reducible refine(H1.o _).mono ?_;rintro e w'⟨rfl,rfl⟩)|(go_at_call 152;with_reducible refine(H2.o _).mono ?_;rintro e w'⟨rfl,rfl⟩)|(go_at_call 87;with_reducible refine(H3.o _).mono ?_;rintro e w'⟨rfl,rfl⟩)|(go_at_call 137;with_reducible refine(aT _ _ _).mono ?_;rintro e w'⟨rfl,rfl⟩))
 refine bodyPost_ret (v:=_) (by simp[results,results177,go_sem]<;>rfl) rfl ?_;refine⟨rfl,bel⟩
theorem EM(a b n:Int)(xs:List Int)(A:Option Addr)(c:Nat)(w:World)(hx:bf w A xs):Calls prog 177 #[.agg #[.int .i64 64521,.int .i64 a,.int .i64 b,.int .u64 n,.slice A xs.length c]] w (dz true false false false (Sp.within a 0 (16-1)) w):=by
 have H1:=eX 64521 0 0 false false;have H2:=eY 64521 0 false;have H3:=eZ 64521 false;clear hx
 go_enter func177,ntmps177
 go_wp2_with (first|(go_at_call 88;with_reducible refine(H1.o _).mono ?_;rintro e w'⟨rfl,rfl⟩)|(go_at_call 152;with_reducible refine(H2.o _).mono ?_;rintro e w'⟨rfl,rfl⟩)|(go_at_call 87;with_reducible refine(H3.o _).mono ?_;rintro e w'⟨rfl,rfl⟩)|(go_at_call 137;with_reducible refine(aT _ _ _).mono ?_;rintro e w'⟨rfl,rfl⟩))
 refine bodyPost_ret (v:=_) (by simp[results,results177,go_sem]<;>rfl) rfl ?_;refine⟨rfl,bel⟩
theorem EN(a b n:Int)(xs:List Int)(A:Option Addr)(c:Nat)(w:World)(hx:bf w A xs):Calls prog 177 #[.agg #[.int .i64 64520,.int .i64 a,.int .i64 b,.int .u64 n,.slice A xs.length c]] w (dz true true false false (Sp.within a 0 (4-1)&&Sp.within b 0 (16-1)) w):=by
 have H1:=eX 64520 0 0 false false;have H2:=eY 64520 0 false;have H3:=eZ 64520 false;clear hx;have H4:=hd (fun w=>(show Calls prog 137 #[.int .i64 b,.int .i64 16] w (fun e w'=>e= .returned (.bool (Sp.within b 0 (16-1)))/\w=w')from aT b 16 w));cases t1:Sp.within a 0 (4-1)with
 |false=>
  have H5:=hd (fun w=>(show Calls prog 137 #[.int .i64 a,.int .i64 4] w (fun e w'=>e= .returned (.bool false)/\w=w')from t1▸aT a 4 w));clear t1
  go_enter func177,ntmps177
  go_wp2_with (first|(go_at_call 88;with_reducible refine(H1.o _).mono ?_;rintro e w'⟨rfl,rfl⟩)|(go_at_call 152;with_reducible refine(H2.o _).mono ?_;rintro e w'⟨rfl,rfl⟩)|(go_at_call 87;with_reducible refine(H3.o _).mono ?_;rintro e w'⟨rfl,rfl⟩)|(go_at_call 137;with_reducible refine(H5.o _).mono ?_;rintro e w'⟨rfl,rfl⟩))
  refine bodyPost_ret (v:=_) (by simp[results,results177,go_sem]<;>rfl) rfl ?_;refine⟨rfl,bel⟩
 |true=>
  have H5:=hd (fun w=>(show Calls prog 137 #[.int .i64 a,.int .i64 4] w (fun e w'=>e= .returned (.bool true)/\w=w')from t1▸aT a 4 w));clear t1
  go_enter func177,ntmps177
  go_wp2_with (first|(go_at_call 88;with_reducible refine(H1.o _).mono ?_;rintro e w'⟨rfl,rfl⟩)|(go_at_call 152;with_reducible refine(H2.o _).mono ?_;rintro e w'⟨rfl,rfl⟩)|(go_at_call 87;with_reducible refine(H3.o _).mono ?_;rintro e w'⟨rfl,rfl⟩)|(go_at_call 137;with_reducible refine(H5.o _).mono ?_;rintro e w'⟨rfl,rfl⟩)|(go_at_call 137;with_reducible refine(H4.o _).mono ?_;rintro e w'⟨rfl,rfl⟩))
  refine bodyPost_ret (v:=_) (by simp[results,results177,go_sem]<;>rfl) rfl ?_;refine⟨rfl,bel⟩
theorem EO(a b n:Int)(xs:List Int)(A:Option Addr)(c:Nat)(w:World)(hx:bf w A xs):Calls prog 177 #[.agg #[.int .i64 64522,.int .i64 a,.int .i64 b,.int .u64 n,.slice A xs.length c]] w (dz true true false false (Sp.within a 0 (4-1)&&Sp.within b 0 (4-1)) w):=by
 have H1:=eX 64522 0 0 false false;have H2:=eY 64522 0 false;have H3:=eZ 64522 false;clear hx;have H4:=hd (fun w=>(show Calls prog 137 #[.int .i64 b,.int .i64 4] w (fun e w'=>e= .returned (.bool (Sp.within b 0 (4-1)))/\w=w')from aT b 4 w));cases t1:Sp.within a 0 (4-1)with
 |false=>
  have H5:=hd (fun w=>(show Calls prog 137 #[.int .i64 a,.int .i64 4] w (fun e w'=>e= .returned (.bool false)/\w=w')from t1▸aT a 4 w));clear t1
  go_enter func177,ntmps177
  go_wp2_with (first|(go_at_call 88;with_reducible refine(H1.o _).mono ?_;rintro e w'⟨rfl,rfl⟩)|(go_at_call 152;with_reducible refine(H2.o _).mono ?_;rintro e w'⟨rfl,rfl⟩)|(go_at_call 87;with_reducible refine(H3.o _).mono ?_;rintro e w'⟨rfl,rfl⟩)|(go_at_call 137;with_reducible refine(H5.o _).mono ?_;rintro e w'⟨rfl,rfl⟩))
  refine bodyPost_ret (v:=_) (by simp[results,results177,go_sem]<;>rfl) rfl ?_;refine⟨rfl,bel⟩
 |true=>
  have H5:=hd (fun w=>(show Calls prog 137 #[.int .i64 a,.int .i64 4] w (fun e w'=>e= .returned (.bool true)/\w=w')from t1▸aT a 4 w));clear t1
  go_enter func177,ntmps177
  go_wp2_with (first|(go_at_call 88;with_reducible refine(H1.o _).mono ?_;rintro e w'⟨rfl,rfl⟩)|(go_at_call 152;with_reducible refine(H2.o _).mono ?_;rintro e w'⟨rfl,rfl⟩)|(go_at_call 87;with_reducible refine(H3.o _).mono ?_;rintro e w'⟨rfl,rfl⟩)|(go_at_call 137;with_reducible refine(H5.o _).mono ?_;rintro e w'⟨rfl,rfl⟩)|(go_at_call 137;with_reducible refine(H4.o _).mono ?_;rintro e w'⟨rfl,rfl⟩))
  refine bodyPost_ret (v:=_) (by simp[results,results177,go_sem]<;>rfl) rfl ?_;refine⟨rfl,bel⟩
theorem Nw(a b n:Int)(xs:List Int)(A:Option Addr)(c:Nat)(w:World)(hx:bf w A xs):Calls prog 177 #[.agg #[.int .i64 14,.int .i64 a,.int .i64 b,.int .u64 n,.slice A xs.length c]] w (dz false false false true (decide (1<=(xs.length:Int))&&(decide ((xs.length:Int)<=17)&& !xs.any (fun x=> !Sp.within x 0 (65-1)))) w):=by
 have H1:=eX 14 0 0 false false;have H2:=eY 14 0 false;have H3:=eZ 14 false;have HX:=hd hx;clear hx;by_cases h1:1<=(xs.length:Int)
 ·by_cases h2:(xs.length:Int)<=17
  ·rw[iz h1,iz h2,Bool.true_and,Bool.true_and]
   go_enter func177,ntmps177
   go_wp2_with (first|(go_at_call 88;with_reducible refine(H1.o _).mono ?_;rintro e w'⟨rfl,rfl⟩)|(go_at_call 152;with_reducible refine(H2.o _).mono ?_;rintro e w'⟨rfl,rfl⟩)|(go_at_call 87;with_reducible refine(H3.o _).mono ?_;rintro e w'⟨rfl,rfl⟩)|(go_at_call 133;with_reducible refine(uo A c xs _ ?hc).mono ?_;(case hc=>(with_reducible repeat (first|exact HX.o|apply Kd.aS|apply Kd.eL|apply Kd.jc)));rintro e w'⟨rfl,rfl⟩))
   refine bodyPost_ret (v:=_) (by simp[results,results177,go_sem]<;>rfl) rfl ?_;refine⟨rfl,bel⟩
  ·rw[iz h1,jP h2,Bool.true_and,Bool.false_and]
   go_enter func177,ntmps177
   go_wp2_with (first|(go_at_call 88;with_reducible refine(H1.o _).mono ?_;rintro e w'⟨rfl,rfl⟩)|(go_at_call 152;with_reducible refine(H2.o _).mono ?_;rintro e w'⟨rfl,rfl⟩)|(go_at_call 87;with_reducible refine(H3.o _).mono ?_;rintro e w'⟨rfl,rfl⟩))
   refine bodyPost_ret (v:=_) (by simp[results,results177,go_sem]<;>rfl) rfl ?_;refine⟨rfl,bel⟩
 ·rw[jP h1,Bool.false_and]
  go_enter func177,ntmps177
  go_wp2_with (first|(go_at_call 88;with_reducible refine(H1.o _).mono ?_;rintro e w'⟨rfl,rfl⟩)|(go_at_call 152;with_reducible refine(H2.o _).mono ?_;rintro e w'⟨rfl,rfl⟩)|(go_at_call 87;with_reducible refine(H3.o _).mono ?_;rintro e w'⟨rfl,rfl⟩))
  refine bodyPost_ret (v:=_) (by simp[results,results177,go_sem]<;>rfl) rfl ?_;refine⟨rfl,bel⟩
theorem Rf(a b n:Int)(xs:List Int)(A:Option Addr)(c:Nat)(w:World)(hx:bf w A xs):Calls prog 177 #[.agg #[.int .i64 2,.int .i64 a,.int .i64 b,.int .u64 n,.slice A xs.length c]] w (dz true false false false (Sp.within a (-4) 63) w):=by
 have H1:=eX 2 0 0 false false;have H2:=eY 2 0 false;have H3:=eZ 2 true;clear hx;unfold Sp.within;by_cases h1: -4<=a
 ·have g1:decide (-4<=a)=true:=by simp;omega
  have g2:decide (a< -4)=false:=by simp;omega
  go_enter func177,ntmps177
  go_wp2_with (first|(go_at_call 88;with_reducible refine(H1.o _).mono ?_;rintro e w'⟨rfl,rfl⟩)|(go_at_call 152;with_reducible refine(H2.o _).mono ?_;rintro e w'⟨rfl,rfl⟩)|(go_at_call 87;with_reducible refine(H3.o _).mono ?_;rintro e w'⟨rfl,rfl⟩))
  go_region
  go_wp2
  refine bodyPost_ret (v:=_) (by simp[results,results177,go_sem]<;>rfl) rfl ?_;refine⟨congrArg (fun b=>Ending.returned (.tuple #[.agg #[.bool true,.bool false,.bool false,.bool false],.bool b])) ?_,bel⟩
  first|rfl|(rw[Bool.eq_iff_iff];simp[h1];done)|(rw[Bool.eq_iff_iff];simp[h1];omega)
 ·have g1:decide (-4<=a)=false:=by simp;omega
  have g2:decide (a< -4)=true:=by simp;omega
  go_enter func177,ntmps177
  go_wp2_with (first|(go_at_call 88;with_reducible refine(H1.o _).mono ?_;rintro e w'⟨rfl,rfl⟩)|(go_at_call 152;with_reducible refine(H2.o _).mono ?_;rintro e w'⟨rfl,rfl⟩)|(go_at_call 87;with_reducible refine(H3.o _).mono ?_;rintro e w'⟨rfl,rfl⟩))
  go_region
  go_wp2
  refine bodyPost_ret (v:=_) (by simp[results,results177,go_sem]<;>rfl) rfl ?_;refine⟨congrArg (fun b=>Ending.returned (.tuple #[.agg #[.bool true,.bool false,.bool false,.bool false],.bool b])) ?_,bel⟩
  first|rfl|(rw[Bool.eq_iff_iff];simp[h1];done)|(rw[Bool.eq_iff_iff];simp[h1];omega)
theorem Rg(a b n:Int)(xs:List Int)(A:Option Addr)(c:Nat)(w:World)(hx:bf w A xs):Calls prog 177 #[.agg #[.int .i64 3,.int .i64 a,.int .i64 b,.int .u64 n,.slice A xs.length c]] w (dz true false false false (Sp.within a (-4) 63) w):=by
 have H1:=eX 3 0 0 false false;have H2:=eY 3 0 false;have H3:=eZ 3 true;clear hx;unfold Sp.within;by_cases h1: -4<=a
 ·have g1:decide (-4<=a)=true:=by simp;omega
  have g2:decide (a< -4)=false:=by simp;omega
  go_enter func177,ntmps177
  go_wp2_with (first|(go_at_call 88;with_reducible refine(H1.o _).mono ?_;rintro e w'⟨rfl,rfl⟩)|(go_at_call 152;with_reducible refine(H2.o _).mono ?_;rintro e w'⟨rfl,rfl⟩)|(go_at_call 87;with_reducible refine(H3.o _).mono ?_;rintro e w'⟨rfl,rfl⟩))
  go_region
  go_wp2
  refine bodyPost_ret (v:=_) (by simp[results,results177,go_sem]<;>rfl) rfl ?_;refine⟨congrArg (fun b=>Ending.returned (.tuple #[.agg #[.bool true,.bool false,.bool false,.bool false],.bool b])) ?_,bel⟩
  first|rfl|(rw[Bool.eq_iff_iff];simp[h1];done)|(rw[Bool.eq_iff_iff];simp[h1];omega)
 ·have g1:decide (-4<=a)=false:=by simp;omega
  have g2:decide (a< -4)=true:=by simp;omega
  go_enter func177,ntmps177
  go_wp2_with (first|(go_at_call 88;with_reducible refine(H1.o _).mono ?_;rintro e w'⟨rfl,rfl⟩)|(go_at_call 152;with_reducible refine(H2.o _).mono ?_;rintro e w'⟨rfl,rfl⟩)|(go_at_call 87;with_reducible refine(H3.o _).mono ?_;rintro e w'⟨rfl,rfl⟩))
  go_region
  go_wp2
  refine bodyPost_ret (v:=_) (by simp[results,results177,go_sem]<;>rfl) rfl ?_;refine⟨congrArg (fun b=>Ending.returned (.tuple #[.agg #[.bool true,.bool false,.bool false,.bool false],.bool b])) ?_,bel⟩
  first|rfl|(rw[Bool.eq_iff_iff];simp[h1];done)|(rw[Bool.eq_iff_iff];simp[h1];omega)
theorem Rh(a b n:Int)(xs:List Int)(A:Option Addr)(c:Nat)(w:World)(hx:bf w A xs):Calls prog 177 #[.agg #[.int .i64 4,.int .i64 a,.int .i64 b,.int .u64 n,.slice A xs.length c]] w (dz true false false false (Sp.within a (-4) 63) w):=by
 have H1:=eX 4 0 0 false false;have H2:=eY 4 0 false;have H3:=eZ 4 true;clear hx;unfold Sp.within;by_cases h1: -4<=a
 ·have g1:decide (-4<=a)=true:=by simp;omega
  have g2:decide (a< -4)=false:=by simp;omega
  go_enter func177,ntmps177
  go_wp2_with (first|(go_at_call 88;with_reducible refine(H1.o _).mono ?_;rintro e w'⟨rfl,rfl⟩)|(go_at_call 152;with_reducible refine(H2.o _).mono ?_;rintro e w'⟨rfl,rfl⟩)|(go_at_call 87;with_reducible refine(H3.o _).mono ?_;rintro e w'⟨rfl,rfl⟩))
  go_region
  go_wp2
  refine bodyPost_ret (v:=_) (by simp[results,results177,go_sem]<;>rfl) rfl ?_;refine⟨congrArg (fun b=>Ending.returned (.tuple #[.agg #[.bool true,.bool false,.bool false,.bool false],.bool b])) ?_,bel⟩
  first|rfl|(rw[Bool.eq_iff_iff];simp[h1];done)|(rw[Bool.eq_iff_iff];simp[h1];omega)
 ·have g1:decide (-4<=a)=false:=by simp;omega
  have g2:decide (a< -4)=true:=by simp;omega
  go_enter func177,ntmps177
  go_wp2_with (first|(go_at_call 88;with_reducible refine(H1.o _).mono ?_;rintro e w'⟨rfl,rfl⟩)|(go_at_call 152;with_reducible refine(H2.o _).mono ?_;rintro e w'⟨rfl,rfl⟩)|(go_at_call 87;with_reducible refine(H3.o _).mono ?_;rintro e w'⟨rfl,rfl⟩))
  go_region
  go_wp2
  refine bodyPost_ret (v:=_) (by simp[results,results177,go_sem]<;>rfl) rfl ?_;refine⟨congrArg (fun b=>Ending.returned (.tuple #[.agg #[.bool true,.bool false,.bool false,.bool false],.bool b])) ?_,bel⟩
  first|rfl|(rw[Bool.eq_iff_iff];simp[h1];done)|(rw[Bool.eq_iff_iff];simp[h1];omega)
theorem Nx(a b n:Int)(xs:List Int)(A:Option Addr)(c:Nat)(w:World)(hx:bf w A xs):Calls prog 177 #[.agg #[.int .i64 65,.int .i64 a,.int .i64 b,.int .u64 n,.slice A xs.length c]] w (dz false false true false (decide (n<=4294967295)) w):=by
 have H1:=eX 65 0 0 false false;have H2:=eY 65 127 true;have H3:=eZ 65 false;clear hx
 go_enter func177,ntmps177
 go_wp2_with (first|(go_at_call 88;with_reducible refine(H1.o _).mono ?_;rintro e w'⟨rfl,rfl⟩)|(go_at_call 152;with_reducible refine(H2.o _).mono ?_;rintro e w'⟨rfl,rfl⟩)|(go_at_call 87;with_reducible refine(H3.o _).mono ?_;rintro e w'⟨rfl,rfl⟩))
 go_region
 go_wp2
 refine bodyPost_ret (v:=_) (by simp[results,results177,go_sem]<;>rfl) rfl ?_;refine⟨rfl,bel⟩
theorem Ny(a b n:Int)(xs:List Int)(A:Option Addr)(c:Nat)(w:World)(hx:bf w A xs):Calls prog 177 #[.agg #[.int .i64 66,.int .i64 a,.int .i64 b,.int .u64 n,.slice A xs.length c]] w (dz false false true false true w):=by
 have H1:=eX 66 0 0 false false;have H2:=eY 66 126 true;have H3:=eZ 66 false;clear hx
 go_enter func177,ntmps177
 go_wp2_with (first|(go_at_call 88;with_reducible refine(H1.o _).mono ?_;rintro e w'⟨rfl,rfl⟩)|(go_at_call 152;with_reducible refine(H2.o _).mono ?_;rintro e w'⟨rfl,rfl⟩)|(go_at_call 87;with_reducible refine(H3.o _).mono ?_;rintro e w'⟨rfl,rfl⟩))
 go_region
 go_wp2
 refine bodyPost_ret (v:=_) (by simp[results,results177,go_sem]<;>rfl) rfl ?_;refine⟨rfl,bel⟩
theorem Nz(a b n:Int)(xs:List Int)(A:Option Addr)(c:Nat)(w:World)(hx:bf w A xs):Calls prog 177 #[.agg #[.int .i64 68,.int .i64 a,.int .i64 b,.int .u64 n,.slice A xs.length c]] w (dz false false true false true w):=by
 have H1:=eX 68 0 0 false false;have H2:=eY 68 124 true;have H3:=eZ 68 false;clear hx
 go_enter func177,ntmps177
 go_wp2_with (first|(go_at_call 88;with_reducible refine(H1.o _).mono ?_;rintro e w'⟨rfl,rfl⟩)|(go_at_call 152;with_reducible refine(H2.o _).mono ?_;rintro e w'⟨rfl,rfl⟩)|(go_at_call 87;with_reducible refine(H3.o _).mono ?_;rintro e w'⟨rfl,rfl⟩))
 go_region
 go_wp2
 refine bodyPost_ret (v:=_) (by simp[results,results177,go_sem]<;>rfl) rfl ?_;refine⟨rfl,bel⟩
theorem Ku(op:Int)(hA:Sp.eD op=true)(hO:Sp.opens op=false)(a b n:Int)(xs:List Int)(A:Option Addr)(c:Nat)(w:World)(hx:bf w A xs):Calls prog 177 #[.agg #[.int .i64 op,.int .i64 a,.int .i64 b,.int .u64 n,.slice A xs.length c]] w (dz true false true false (Sp.within a 0 (4-1)&&decide (n<=4294967295)) w):=by
 have H1:=hd (fun w=>(show Calls prog 88 #[.int .i64 op] w (fun e w'=>e= .returned (.tuple #[.int .i64 (Sp.mW op),.int .i64 (Sp.jX op),.bool (Sp.tN op),.bool true])/\w=w')from hA▸jh op w));have H2:=hd (fun w=>(show Calls prog 152 #[.int .i64 op] w (fun e w'=>e= .returned (.tuple #[.int .i64 (Sp.dx op),.bool (decide (Sp.dx op≠0))])/\w=w')from ot op w));have H3:=hd (fun w=>(show Calls prog 87 #[.int .i64 op] w (fun e w'=>e= .returned (.bool false)/\w=w')from hO▸gK op w));clear hx;cases t1:Sp.within a 0 (4-1)with
 |false=>
  have H5:=hd (fun w=>(show Calls prog 137 #[.int .i64 a,.int .i64 4] w (fun e w'=>e= .returned (.bool false)/\w=w')from t1▸aT a 4 w));clear t1
  go_enter func177,ntmps177
  go_wp2_with (first|(go_at_call 88;with_reducible refine(H1.o _).mono ?_;rintro e w'⟨rfl,rfl⟩)|(go_at_call 152;with_reducible refine(H2.o _).mono ?_;rintro e w'⟨rfl,rfl⟩)|(go_at_call 87;with_reducible refine(H3.o _).mono ?_;rintro e w'⟨rfl,rfl⟩))
  first|(go_region_with (go_at_call 137;with_reducible refine(H5.o _).mono ?_;rintro e w'⟨rfl,rfl⟩))|fail
  all_goals
   go_wp2
   refine bodyPost_ret (v:=_) (by simp[results,results177,go_sem]<;>rfl) rfl ?_;refine⟨rfl,bel⟩
 |true=>
  have H5:=hd (fun w=>(show Calls prog 137 #[.int .i64 a,.int .i64 4] w (fun e w'=>e= .returned (.bool true)/\w=w')from t1▸aT a 4 w));clear t1
  go_enter func177,ntmps177
  go_wp2_with (first|(go_at_call 88;with_reducible refine(H1.o _).mono ?_;rintro e w'⟨rfl,rfl⟩)|(go_at_call 152;with_reducible refine(H2.o _).mono ?_;rintro e w'⟨rfl,rfl⟩)|(go_at_call 87;with_reducible refine(H3.o _).mono ?_;rintro e w'⟨rfl,rfl⟩))
  first|(go_region_with (go_at_call 137;with_reducible refine(H5.o _).mono ?_;rintro e w'⟨rfl,rfl⟩))|fail
  all_goals
   go_wp2
   refine bodyPost_ret (v:=_) (by simp[results,results177,go_sem]<;>rfl) rfl ?_;refine⟨rfl,bel⟩
theorem G6(op:Int)(hA:Sp.eD op=false)(hO:Sp.opens op=false)(hC:decide (Sp.dx op≠0)=false)(hn: ∀k∈ [12,13,14,16,18,32,33,34,35,36,63,64,64523,64520,64521,64522],op≠k)(a b n:Int)(xs:List Int)(A:Option Addr)(c:Nat)(w:World)(hx:bf w A xs):Calls prog 177 #[.agg #[.int .i64 op,.int .i64 a,.int .i64 b,.int .u64 n,.slice A xs.length c]] w (dz false false false false true w):=by
 have H1:=hd (fun w=>(show Calls prog 88 #[.int .i64 op] w (fun e w'=>e= .returned (.tuple #[.int .i64 (Sp.mW op),.int .i64 (Sp.jX op),.bool (Sp.tN op),.bool false])/\w=w')from hA▸jh op w));have H2:=hd (fun w=>(show Calls prog 152 #[.int .i64 op] w (fun e w'=>e= .returned (.tuple #[.int .i64 (Sp.dx op),.bool false])/\w=w')from hC▸ot op w));have H3:=hd (fun w=>(show Calls prog 87 #[.int .i64 op] w (fun e w'=>e= .returned (.bool false)/\w=w')from hO▸gK op w));clear hx;have n12:(op==12)=false:=by simpa using hn 12 (by decide)
 have n13:(op==13)=false:=by simpa using hn 13 (by decide)
 have n14:(op==14)=false:=by simpa using hn 14 (by decide)
 have n16:(op==16)=false:=by simpa using hn 16 (by decide)
 have n18:(op==18)=false:=by simpa using hn 18 (by decide)
 have n32:(op==32)=false:=by simpa using hn 32 (by decide)
 have n33:(op==33)=false:=by simpa using hn 33 (by decide)
 have n34:(op==34)=false:=by simpa using hn 34 (by decide)
 have n35:(op==35)=false:=by simpa using hn 35 (by decide)
 have n36:(op==36)=false:=by simpa using hn 36 (by decide)
 have n63:(op==63)=false:=by simpa using hn 63 (by decide)
 have n64:(op==64)=false:=by simpa using hn 64 (by decide)
 have ab0:(op==64523)=false:=by simpa using hn 64523 (by decide)
 have ab1:(op==64520)=false:=by simpa using hn 64520 (by decide)
 have ab2:(op==64521)=false:=by simpa using hn 64521 (by decide)
 have ab3:(op==64522)=false:=by simpa using hn 64522 (by decide)
 clear hn hA hO hC
 go_enter func177,ntmps177
 go_wp2_with (first|(go_at_call 88;with_reducible refine(H1.o _).mono ?_;rintro e w'⟨rfl,rfl⟩)|(go_at_call 152;with_reducible refine(H2.o _).mono ?_;rintro e w'⟨rfl,rfl⟩)|(go_at_call 87;with_reducible refine(H3.o _).mono ?_;rintro e w'⟨rfl,rfl⟩))
 refine bodyPost_ret (v:=_) (by simp[results,results177,go_sem]<;>rfl) rfl ?_;refine⟨rfl,bel⟩
theorem yR(i:aW)(A:Option Addr)(c:Nat)(w:World)(hx:bf w A i.f4):Calls prog 177 #[.agg #[.int .i64 i.f0,.int .i64 i.f1,.int .i64 i.f2,.int .u64 i.f3,.slice A i.f4.length c]] w (dz (Sp.CD i.f0) (Sp.GL i.f0) (Sp.GM i.f0) (Sp.GN i.f0) (Sp.lF i) w):=by
 obtain⟨op,a,b,n,xs⟩:=i;by_cases h2:op=2
 ·subst h2
  exact Rf a b n xs A c w hx
 by_cases h3:op=3
 ·subst h3
  exact Rg a b n xs A c w hx
 by_cases h4:op=4
 ·subst h4
  exact Rh a b n xs A c w hx
 by_cases h65:op=65
 ·subst h65
  exact Nx a b n xs A c w hx
 by_cases h66:op=66
 ·subst h66
  exact Ny a b n xs A c w hx
 by_cases h68:op=68
 ·subst h68
  exact Nz a b n xs A c w hx
 by_cases h12:op=12
 ·subst h12
  exact Nh a b n xs A c w hx
 by_cases sg:op=13
 ·subst sg
  exact Nk a b n xs A c w hx
 by_cases mL:op=14
 ·subst mL
  exact Nw a b n xs A c w hx
 by_cases qp:op=16
 ·subst qp
  exact Nl a b n xs A c w hx
 by_cases vh:op=18
 ·subst vh
  exact Nn a b n xs A c w hx
 by_cases AA:op=32
 ·subst AA
  exact Np a b n xs A c w hx
 by_cases BI:op=33
 ·subst BI
  exact Nq a b n xs A c w hx
 by_cases CS:op=34
 ·subst CS
  exact Nr a b n xs A c w hx
 by_cases DV:op=35
 ·subst DV
  exact Ns a b n xs A c w hx
 by_cases Ad:op=36
 ·subst Ad
  exact Nt a b n xs A c w hx
 by_cases h63:op=63
 ·subst h63
  exact Nu a b n xs A c w hx
 by_cases G7:op=64
 ·subst G7
  exact Nv a b n xs A c w hx
 by_cases pn:op=64523
 ·subst pn
  exact EL a b n xs A c w hx
 by_cases qQ:op=64520
 ·subst qQ
  exact EN a b n xs A c w hx
 by_cases vA:op=64521
 ·subst vA
  exact EM a b n xs A c w hx
 by_cases yS:op=64522
 ·subst yS
  exact EO a b n xs A c w hx
 have hO:Sp.opens op=false:=by simp only[Sp.opens,Sp.within,iy];omega
 have hCr:=Sp.mo op;have hC:Sp.dx op=0:=by omega
 by_cases hA:Sp.eD op=true
 ·have hr:=Sp.oU op
  have hr2:0<Sp.mW op:=by simpa[Sp.eD]using hA
  have e1:Sp.CD op=true:=by simp[Sp.CD,hA]
  have e2:Sp.GL op=false:=by simp only[Sp.GL,iy];omega
  have e3:Sp.GM op=true:=by simp[Sp.GM,hA]
  have e4:Sp.GN op=false:=by simp only[Sp.GN,iy];omega
  have e5:Sp.lF ⟨op,a,b,n,xs⟩=(Sp.within a 0 (4-1)&&decide (n<=4294967295)):=by unfold Sp.lF;dsimp only;rw[if_neg (by simp[hO]),if_pos hA]
  dsimp only;rw[e1,e2,e3,e4,e5];exact Ku op hA hO a b n xs A c w hx
 ·have hA:Sp.eD op=false:=by simpa using hA
  have e1:Sp.CD op=false:=by rw[Bool.eq_false_iff];intro h;simp only[Sp.CD,hO,hA,Bool.or_false,Bool.false_or,decide_eq_true_eq]at h;omega
  have e2:Sp.GL op=false:=by simp only[Sp.GL,iy];omega
  have e3:Sp.GM op=false:=by simp[Sp.GM,hA,hC]
  have e4:Sp.GN op=false:=by simp only[Sp.GN,iy];omega
  have e5:Sp.lF ⟨op,a,b,n,xs⟩=true:=by unfold Sp.lF;dsimp only;rw[if_neg (by simp[hO]),if_neg (by simp[hA]),if_neg (by omega),if_neg (by omega),if_neg (by omega),if_neg (by omega),if_neg (by omega),if_neg (by omega),if_neg (by omega),if_neg (by omega),if_neg (by omega)]
  dsimp only;rw[e1,e2,e3,e4,e5];exact G6 op hA hO (by simp[hC]) (by intro k hk;simp only[List.mem_cons,List.not_mem_nil,or_false]at hk;omega) a b n xs A c w hx
theorem len0(xs:List Int):((xs.length:Int)==0)=decide (xs= []):=by
 rw[Bool.eq_iff_iff,beq_iff_eq,decide_eq_true_iff];cases xs with
 |nil=>simp
 |cons a l=>simp;omega
theorem Kv(op a b n:Int)(xs:List Int)(A:Option Addr)(c:Nat)(w:World)(hx:bf w A xs)(kn ok fa fb fn fl:Bool)
 (HK:Hid (∀w,Calls prog 143 #[.int .i64 op] w fun e w'=>e= .returned (.bool kn)/\w=w'))
 (HS:Hid (∀w,bf w A xs->Calls prog 177 #[.agg #[.int .i64 op,.int .i64 a,.int .i64 b,.int .u64 n,.slice A xs.length c]] w (dz fa fb fn fl ok w))):
 Calls prog 128 #[.agg #[.int .i64 op,.int .i64 a,.int .i64 b,.int .u64 n,.slice A xs.length c]] w (aB (kn&&(ok&&((fa||decide (a=0))&&((fb||decide (b=0))&&((fn||decide (n=0))&&(fl||decide ((xs.length:Int)=0))))))) w):=by
 have HX:=hd hx;clear hx
 go_enter func128,ntmps128
 go_wp2_with (first
  |((go_at_call 177);(with_reducible refine(HS.o _ ?hc).mono ?_);(case hc=>(with_reducible repeat (first|exact HX.o|apply Kd.aS|apply Kd.eL|apply Kd.jc)));rintro e w1⟨rfl,hb1⟩;obtain⟨eA,kW⟩:=iQ hb1;have z1:w.heap.size<w1.heap.size:=(by have:=hb1.size;first|omega|(simp at this;omega));have c0:w1.cell? ⟨w.heap.size,0,none⟩=some (.int .i64 op):=(eA _ _ (by first|(simp;done)|(simp;omega)|omega)).trans (by first|(simp[go_sem];done)|assumption);have c1:w1.cell? ⟨w.heap.size,1,none⟩=some (.int .i64 a):=(eA _ _ (by first|(simp;done)|(simp;omega)|omega)).trans (by first|(simp[go_sem];done)|assumption);have c2:w1.cell? ⟨w.heap.size,2,none⟩=some (.int .i64 b):=(eA _ _ (by first|(simp;done)|(simp;omega)|omega)).trans (by first|(simp[go_sem];done)|assumption);have c3:w1.cell? ⟨w.heap.size,3,none⟩=some (.int .u64 n):=(eA _ _ (by first|(simp;done)|(simp;omega)|omega)).trans (by first|(simp[go_sem];done)|assumption);have c4:w1.cell? ⟨w.heap.size,4,none⟩=some (.slice A xs.length c):=(eA _ _ (by first|(simp;done)|(simp;omega)|omega)).trans (by first|(simp[go_sem];done)|assumption);have bE:=hd hb1;clear hb1 eA kW)
  |((go_at_call 143);(with_reducible refine(HK.o _).mono ?_);rintro e w'⟨rfl,rfl⟩))
 all_goals
  go_ret;refine⟨congrArg (fun b=>Ending.returned (.bool b)) ?_,by repeat (first|exact ay _ _|refine af ?_ _|refine aK ?_ (by omega)|refine az ?_ bE.o)⟩
  first|(simp_all;done)|(simp_all;exact len0 _)
theorem EP(i:aW)(A:Option Addr)(c:Nat)(w:World)(hx:bf w A i.f4):Calls prog 128 #[.agg #[.int .i64 i.f0,.int .i64 i.f1,.int .i64 i.f2,.int .u64 i.f3,.slice A i.f4.length c]] w (aB (Sp.fD i) w):=by
 unfold Sp.fD;exact Kv i.f0 i.f1 i.f2 i.f3 i.f4 A c w hx (Sp.known i.f0) (Sp.lF i) (Sp.CD i.f0) (Sp.GL i.f0) (Sp.GM i.f0) (Sp.GN i.f0) (hd (fun w=>Bz i.f0 w)) (hd (fun w h=>yR i A c w h))
theorem gN(s:ByteArray)(w:World):Calls prog 66 #[.string s] w (aB (Sp.name s) w):=by
 unfold Sp.name;by_cases h1:s.size<=64
 ·have Te:decide ((s.size:Int)<=64)=true:=by simp;omega
  rw[iz h1,Bool.true_and];have kb:=fun W=>Ec (P:=prog) 9 51 5 underlying9 underlying51 underlying5 s W
  have hk:=Kh (bytesOf s) (by rw[je];omega);have hr:=Kd.kQ (h1:=fun _=>rfl) (d:=(0:Int)) (enc:=Value.int .u8) (Ed w 5 s (by omega));rw[<-je s]at hr;have HT:=hd (jS.calls 1000 (some ⟨w.heap.size,0,none⟩) (grownCap w s.size 0 5) (bytesOf s) _ _ hr (by rw[je];exact Go.grownCap_ge _ _ _ _) hk);rw[je]at HT;clear hr hk
  go_enter func66,ntmps66
  go_wp2_with (first|(go_at_call 121;refine HT.o.mono ?_;rintro e w'⟨rfl,hb⟩))
  go_ret;exact⟨rfl,(Ee (ay _ _) (aU _) _ _).trans (hb.mono (by rw[Lib.bytesWorld_size];omega))⟩
 ·have Te:decide ((s.size:Int)<=64)=false:=by simp;omega
  rw[jP h1,Bool.false_and]
  go_enter func66,ntmps66
  go_wp2
  go_ret;exact⟨rfl,by repeat (first|exact ay _ _|refine af ?_ _)⟩
end Go.Proofs.YthehihjcpiadgaaGreat
