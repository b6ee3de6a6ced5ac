import Derived.RangeFuncBox
import Derived.RangeFuncLeaves
import Derived.Shelf.Abstract
import Derived.OwnWalkIn
import Derived.TacticsInMore
import Derived.LoopNIn
import Derived.LoopIn
import Derived.RangeFuncCalls
import Derived.Test.YthehihjcpiadgaaGreatCheckMadeB4
set_option maxRecDepth 100000
set_option maxHeartbeats 0
set_option linter.all false
open Go.Proofs.Tryz
namespace Go.Proofs.YthehihjcpiadgaaGreat
open Go.RowKit Go.Shelf
attribute [local go_sem] Oper.semAt_some
namespace Bk
def upto{α:Type}(f:Nat->α)(k:Nat):List α:=(List.range k).map f
theorem vH{α:Type}(f:Nat->α)(k:Nat):upto f (k+1)=upto f k++ [f k]:=by simp[upto,List.range_succ]
theorem qT{α:Type}(f:Nat->α)(k:Nat):(upto f k).length=k:=by simp[upto]
def kB(b c:Nat)(W W':World):Prop:=W'.heap[b]? =W.heap[b]? /\W'.heap[c]? =W.heap[c]?
theorem kB.refl(b c:Nat)(W:World):kB b c W W:=⟨rfl,rfl⟩
theorem kB.trans{b c:Nat}{A B C:World}(h:kB b c A B)(k:kB b c B C):kB b c A C:=⟨k.1.trans h.1,k.2.trans h.2⟩
theorem kB.cell1{b c:Nat}{A B:World}(h:kB b c A B)(o:Nat):B.cell? ⟨b,o,none⟩=A.cell? ⟨b,o,none⟩:=by simp[World.cell?,h.1]
theorem kB.XR{b c:Nat}{A B:World}(h:kB b c A B)(o:Nat):B.cell? ⟨c,o,none⟩=A.cell? ⟨c,o,none⟩:=by simp[World.cell?,h.2]
def at_(zs:List Int)(k:Nat):Int×Int:=((zs.length:Int)-1-k,zs[zs.length-1-k]?.getD 0)
theorem NK(F:Fence)(n:Nat)(h7:F.fn 220)(hro:F.round=none)(hn:1<=n)(l Bs b off cap:Nat)(zs:List Int)(NL:zs.length<=1000000)(J Jx:List (Int×Int)->World->Prop)
 (hY: ∀pre x W,J pre W->pre.length<zs.length->YieldAt F (n-1) prog l #[.int .i64 x.1,.int .i64 x.2] W fun e W'=>
  (e= .returned (.bool true)/\J (pre++ [x]) W'/\kB b Bs W W')\/(e= .returned (.bool false)/\Jx (pre++ [x]) W'))
 (W:World) (hBs:W.cell? ⟨Bs,0,none⟩=some (.slice (some ⟨b,off,none⟩) zs.length cap)) (hc: ∀j,j<zs.length->W.cell? ⟨b,off+j,none⟩=some (.int .i64 (zs[j]?.getD 0))) (h0:J [] W):
 CallsIn F n prog 220 #[.func (.yield l) #[] #[],.pointer (some ⟨Bs,0,none⟩)] W fun e W'=>(∃v,e= .returned v)/\
  ((∃ys,ys=upto (at_ zs) zs.length/\J ys W')\/(∃pre,(∃k,k<=zs.length/\pre=upto (at_ zs) k)/\Jx pre W')):=by
 refine callsIn_of_wp func220 rfl h7 ?_ hro;simp only[ntmps220,List.size_toArray,List.length_cons,List.length_nil,Nat.reduceAdd,Nat.reduceSub,Array.replicate_succ,Array.replicate_zero,List.push_toArray,List.append_toArray,List.nil_append,List.cons_append];have hw:wrap64 ((zs.length:Int)-1)=(zs.length:Int)-1:=by unfold wrap64;omega
 gi_wp2
 gi_loopw [3] (fun i wr=> ∃(k:Nat) (i0:Int),k<=zs.length/\i= .int .i64 i0/\i0=(zs.length:Int)-1-k/\J (upto (at_ zs) k) wr/\kB b Bs W wr)
  (fun i _=>(intOf i+1).toNat)
 case atStart=>exact⟨0,(zs.length:Int)-1,Nat.zero_le _,rfl,by omega,h0,kB.refl _ _ _⟩
 case round=>
  obtain⟨k,i0,hk,rfl,XS,hJs,hnx⟩:=hrel;have agI:wr.cell? ⟨Bs,0,none⟩=some (.slice (some ⟨b,off,none⟩) zs.length cap):=(hnx.XR 0).trans hBs;by_cases bI:k<zs.length
  ·obtain⟨m,hm⟩: ∃m,zs.length=m+k+1:=⟨zs.length-1-k,by omega⟩
   have Gk:zs.length-1-k=m:=by omega
   obtain rfl:i0=(m:Int):=by omega
   have hcx:wr.cell? ⟨b,off+m,none⟩=some (.int .i64 (zs[m]?.getD 0)):=(hnx.cell1 (off+m)).trans (hc m (by omega));have hx:at_ zs k=((m:Int),zs[m]?.getD 0):=by unfold at_;rw[Gk];simp only[Prod.mk.injEq,and_true];omega
   obtain⟨fn,tmps,assign,body,hy,hR⟩:=hY _ ((m:Int),zs[m]?.getD 0) wr hJs (by rw[qT];exact bI);dsimp only at hy;have hb1:(m:Int)<(zs.length:Int):=by omega
   have hb0:(0:Int)<=(m:Int):=by omega
   have HM:=hd hm;clear hm Gk XS hw
   gi_wp2
   refine hR.mono ?_;rintro e W3 (⟨rfl,hJ3,hk3⟩|⟨rfl,ab5⟩)
   ·gi_wp2
    go_roundw
    case rel=>exact⟨k+1,_,by omega,rfl,by have:=HM.o;first|omega|(unfold wrap64;omega),by rw[vH,hx];exact hJ3,hnx.trans hk3⟩
    case measure=>have:=HM.o;first|(simp[intOf];done)|(simp[intOf];omega)|(simp[intOf];unfold wrap64;omega)
   ·gi_wp2
    refine bodyPost_ret (results_none rfl _ _ _) rfl ?_;exact⟨⟨_,rfl⟩,.inr ⟨_,⟨k+1,by omega,by rw[vH,hx]⟩,ab5⟩⟩
  ·obtain rfl:k=zs.length:=by omega
   obtain rfl:i0= -1:=by omega
   gi_wp2
   go_end0
   exact⟨⟨_,rfl⟩,.inl ⟨_,rfl,hJs⟩⟩
end Bk
end Go.Proofs.YthehihjcpiadgaaGreat
namespace Go.Proofs.YthehihjcpiadgaaGreat
open Go.RowKit Go.Proofs.Wz.PrintWords Go.Shelf
attribute [local go_sem] Oper.semAt_some
namespace Bk
theorem CX(F:Fence)(n:Nat)(h7:F.fn 220)(hro:F.round=none)(l Bs:Nat)(J:List (Int×Int)->World->Prop)(W:World)(c0:Nat)(hBs:W.cell? ⟨Bs,0,none⟩=some (.slice none 0 c0))(h0:J [] W):
 CallsIn F n prog 220 #[.func (.yield l) #[] #[],.pointer (some ⟨Bs,0,none⟩)] W fun e W'=>(∃v,e= .returned v)/\J [] W':=by
 refine callsIn_of_wp func220 rfl h7 ?_ hro;simp only[ntmps220,List.size_toArray,List.length_cons,List.length_nil,Nat.reduceAdd,Nat.reduceSub,Array.replicate_succ,Array.replicate_zero,List.push_toArray,List.append_toArray,List.nil_append,List.cons_append]
 gi_wp2
 gi_loopw [3] (fun i wr=>i= .int .i64 (-1)/\J [] wr) (fun _ _=>0)
 case atStart=>exact⟨rfl,h0⟩
 case round=>
  obtain⟨rfl,hJs⟩:=hrel
  gi_wp2
  go_end0
  exact⟨⟨_,rfl⟩,hJs⟩
theorem CY(F:Fence)(n:Nat)(h5:F.fn 195)(hro:F.round=none)(a:Option Addr)(len cap:Nat)(w:World):
 CallsIn F n prog 195 #[.slice a len cap] w fun e w'=>e= .returned (.func (.func 220) #[] #[.pointer (some ⟨w.heap.size,0,none⟩)])/\w'=w.alloc (.cells #[.slice a len cap] 23):=by
 refine callsIn_of_wp func195 rfl h5 ?_ hro;simp only[ntmps195,List.size_toArray,List.length_cons,List.length_nil,Nat.reduceAdd,Nat.reduceSub,Array.replicate_succ,Array.replicate_zero,List.push_toArray,List.append_toArray,List.nil_append,List.cons_append]
 gi_wp2
 go_ret;exact⟨rfl,rfl⟩
def Holds(W:World)(b:Nat)(sv:Value)(zs:List Int):Prop:=
 ((∃c,sv= .slice none 0 c)/\zs= [])\/ ∃off cap,sv= .slice (some ⟨b,off,none⟩) zs.length cap/\ ∀j,j<zs.length->W.cell? ⟨b,off+j,none⟩=some (.int .i64 (zs[j]?.getD 0))
theorem sX(F:Fence)(n:Nat)(h8:F.fn 220)(hro:F.round=none)(hn:1<=n)(Bs b:Nat)(sv:Value)(zs:List Int)(NL:zs.length<=1000000)(w:World)(hBs:Bs<w.heap.size)(hb:b<w.heap.size)
 (hc:w.cell? ⟨Bs,0,none⟩=some sv) (hI:Holds w b sv zs):
 SeqStopsK F n prog 220 #[.pointer (some ⟨Bs,0,none⟩)] (fun x:Int×Int=>#[Value.int .i64 x.1,Value.int .i64 x.2]) (kB b Bs) (fun ys=>ys=upto (at_ zs) zs.length)
  (fun pre=> ∃k,k<=zs.length/\pre=upto (at_ zs) k) zs.length w:=fun l J Jx W hW _ _ hY h0=>by
 have hc':=(hW.cell (p:=⟨Bs,0,none⟩) hBs).trans hc;rcases hI with⟨⟨c,rfl⟩,rfl⟩|⟨off,cap,rfl,hcs⟩
 ·exact(CX F n h8 hro l Bs J W c hc' h0).mono fun e W' ⟨he,hj⟩=>⟨he,.inl ⟨_,rfl,hj⟩⟩
 ·exact NK F n h8 hro hn l Bs b off cap zs NL J Jx hY W hc' (fun j hj=>(hW.cell (p:=⟨b,off+j,none⟩) hb).trans (hcs j hj)) h0
end Bk
def gJ(s:Sp.St)(pre:List (Int×Int)):Sp.St:=pre.foldl (fun s x=>s.Aq x.2) s
theorem wN(s:Sp.St)(pre:List (Int×Int))(x:Int×Int):gJ s (pre++ [x])=(gJ s pre).Aq x.2:=by simp[gJ]
theorem wO(s:Sp.St)(zs:List Int): ∀k,k<=zs.length->gJ s (Bk.upto (Bk.at_ zs) k)=s.pop (zs.drop (zs.length-k))
 |0,_=>by simp[Bk.upto,gJ,Sp.St.pop]
 |k+1,h=>by
  rw[Bk.vH,wN,wO s zs k (by omega)];have e:zs.length-k=(zs.length-(k+1))+1:=by omega
  have bI:zs.length-(k+1)<zs.length:=by omega
  rw[List.drop_eq_getElem_cons bI];have e2:zs.length-1-k=zs.length-(k+1):=by omega
  rw[show zs.length-(k+1)+1=zs.length-k from by omega];simp only[Sp.St.pop,List.foldr_cons,Bk.at_,e2,MA bI,Option.getD_some]
theorem Hf(s:Sp.St)(zs:List Int):gJ s (Bk.upto (Bk.at_ zs) zs.length)=s.pop zs:=by
 rw[wO s zs zs.length (aU _),Nat.sub_self,List.drop_zero]
namespace Sp
theorem qU{s:St}(h:cq s):cq s.any.2:=by
 obtain⟨h1,h2,h3,h4,h5⟩:=h;unfold St.any;by_cases hle:(s.T.length:Int)<=s.top.f2
 ·rw[if_pos hle];exact⟨h1,h2,h3,h4,h5⟩
 ·rw[if_neg hle]
  refine⟨h1,h2,by simp;omega,fun i i0 i1=>⟨(h4 i i0 i1).1,?_⟩,h5⟩;have:=h5 i ((s.F.length:Int)-1) i0 (by dsimp only at i1;omega) (by omega);have ht:s.top.f2=(bB s.F ((s.F.length:Int)-1)).f2:=rfl;simp only[List.length_take];omega
theorem ox{s:St}(h:cq s)(b:Bool):cq ⟨s.T,s.F,b⟩:=h
theorem BM{s:St}(h:cq s)(x:Int):cq (s.Aq x):=by
 unfold St.Aq
 split
 ·exact ox (qU h) true
 ·exact qU h
theorem iA{s:St}(h:cq s)(l:List Int):cq (s.pop l):=by
 unfold St.pop;induction l with
 |nil=>exact h
 |cons a l ih=>rw[List.foldr_cons];exact BM ih a
end Sp
theorem ET{s:Sp.St}(h:Sp.cq s): ∀pre,Sp.cq (gJ s pre):=by
 intro pre;unfold gJ;induction pre generalizing s with
 |nil=>exact h
 |cons a l ih=>exact ih (Sp.BM h a.2)
theorem EU{α:Type}{d:Kd α}{e:Nat}{W W':World}{base:Nat}{ok:Nat->Prop}{v:Value}{xs:List α}(h:d.R e W base ok v xs){row:Option Nat}(hg:W.grownBy W' row)(hr: ∀r,row=some r-> ∃o:Obj,W.heap[r]? =some o/\o.isCells=false):d.R e W' base ok v xs:=by
 refine Kd.bQ (Kd.jN (Kd.fW h) (fun k hk=>?_)) (fun k hk=>hk.1);obtain⟨_,_,bI,q,_,cells,hc⟩:=hk;refine hg.block k bI (fun e=>?_);obtain⟨o,ho,hn⟩:=hr k e.symm;rw[hc]at ho;cases ho;cases hn
theorem mO{W W':World}{base g:Nat}{D:Nat->Prop}{fx:List Value}{s:Sp.St}{vT vF:Value}(h:aJ W base g D fx s vT vF){row:Option Nat}(hg:W.grownBy W' row)(hr: ∀r,row=some r-> ∃o:Obj,W.heap[r]? =some o/\o.isCells=false):aJ W' base g D fx s vT vF:=by
 obtain⟨hg0,iR,hb,sR,hT,hF,o9,hD⟩:=h;refine⟨(hg.block g (aj hg0) (fun e=>?_)).trans hg0,iR,hb,sR,EU hT hg hr,EU hF hg hr,o9,fun k hk=>jv (hD k hk) hg.size⟩;obtain⟨o,ho,hn⟩:=hr g e.symm;rw[hg0]at ho;cases ho;cases hn
theorem nV{W W':World}{base g B:Nat}{D:Nat->Prop}{fx:List Value}{s:Sp.St}{vT vF dI eG:Value}(h:aJ W base g D fx s vT vF)(m:Mv g W W' vT vF dI eG):KeepsFrom B W W':=by
 obtain⟨hg0,iR,hb,sR,hT,hF,o9,hD⟩:=h;refine⟨m.size,fun k o _ hk ho=>?_⟩;have bI:k<W.heap.size:=(Array.getElem?_eq_some_iff.1 hk).1;refine(m.block k bI (fun e=>?_) (fun e=>?_) (fun e=>?_)).trans hk
 ·subst e;rw[hg0]at hk;cases hk;cases ho
 ·obtain⟨cells,hc⟩:=Kd.rK hT k e.symm;rw[hc]at hk;cases hk;cases ho
 ·obtain⟨cells,hc⟩:=Kd.rK hF k e.symm;rw[hc]at hk;cases hk;cases ho
theorem CZ{b c:Nat}{A B C:World}(h:Bk.kB b c A B)(k:Bk.kB b c B C):Bk.kB b c A C:=h.trans k
theorem C8{w:World}{b c:Nat}(hb:b<w.heap.size)(hc:c<w.heap.size)(W:World)(l:Nat)(o o':Obj)(hl:w.heap.size<=l)(_:W.heap[l]? =some o)(_:o.isCells=false)(_:o.isWalk=false):Bk.kB b c W (W.putObj l o'):=
 ⟨World.putObj_heap_other (by omega),World.putObj_heap_other (by omega)⟩
theorem Mv.bF{g:Nat}{a b:World}{t f:Value}(h:Below a.heap.size a b):Mv g a b t f t f:=⟨h.os,h.tape,h.output,h.size,fun k hk _ _ _=>h.block k hk,fun _ h=> .inl h,fun _ h=> .inl h⟩
theorem Mv.other{g:Nat}{a b c:World}{t f t1 f1:Value}(h:Mv g a b t f t1 f1){row:Option Nat}(hg:b.grownBy c row)(hr: ∀r,row=some r->a.heap.size<=r):Mv g a c t f t1 f1:=
 ⟨hg.os.trans h.os,hg.tape.trans h.tape,hg.output.trans h.output,cG h.size hg.size,fun k h1 h2 h3 h4=>(hg.block k (jv h1 h.size) (fun e=>by have:=hr k e.symm;omega)).trans (h.block k h1 h2 h3 h4),h.BG,h.Ax⟩
theorem AO{B:Nat}{W W2:World}{p:Addr}{v:Value}(h:KeepsFrom B W W2):KeepsFrom B W (W2.setCell p v):=
 ⟨cG h.size (KeepsOthers.setCell W2 p v).size,fun k o hk h1 h2=>(KeepsOthers.setCell W2 p v).same k o (h.same k o hk h1 h2) h2⟩
def NM(w:World)(base g b:Nat)(D:Nat->Prop)(fx:List Value)(s:Sp.St)(vT vF:Value)(pre:List (Int×Int))(W:World):Prop:=
 ∃dI eG,Mv g w W vT vF dI eG/\aJ W base g D fx (gJ s pre) dI eG/\W.cell? ⟨w.heap.size,0,none⟩=some (.pointer (some ⟨g,0,none⟩))/\W.heap[w.heap.size]? =some (.cells #[.pointer (some ⟨g,0,none⟩)] 104 (0,0))/\w.heap.size+2<=W.heap.size/\ ∀k,k=b\/k=w.heap.size\/k=w.heap.size+1->k≠g/\some k≠dI.ownBlock/\some k≠eG.ownBlock
theorem NN{w:World}{base g b B:Nat}{D:Nat->Prop}{fx:List Value}{s:Sp.St}{vT vF:Value}(hB:w.heap.size<=B):OwnFrom B (NM w base g b D fx s vT vF):=by
 rintro pre W W' row⟨dI,eG,m,h,c,hh,hs,hk⟩hg hr;have hne: ∀r,row=some r-> ∃o:Obj,W.heap[r]? =some o/\o.isCells=false:=fun r e=>(hr r e).2
 have gG:W'.heap[w.heap.size]? =W.heap[w.heap.size]? :=hg.block _ (by omega) (fun e=>by
  obtain⟨o,ho,hn⟩:=hne _ e.symm;rw[hh]at ho;cases ho;cases hn)
 refine⟨dI,eG,⟨hg.os.trans m.os,hg.tape.trans m.tape,hg.output.trans m.output,cG m.size hg.size,fun k pZ hk2 hk3 hk4=>(hg.block k (jv pZ m.size) (fun e=>by have:=(hr k e.symm).1;omega)).trans (m.block k pZ hk2 hk3 hk4),m.BG,m.Ax⟩,mO h hg hne,?_,gG.trans hh,cG hs hg.size,hk⟩;rw[<-c];simp[World.cell?,gG]
theorem Hg(w:World)(base g:Nat)(D:Nat->Prop)(fx:List Value)(s:Sp.St)(vT vF:Value)(h:aJ w base g D fx s vT vF)(hI:Sp.cq s)(A:Option Addr)(cA b:Nat)(l:List Int)(hH:Bk.Holds w b (.slice A l.length cA) l)(hb:b<=w.heap.size)(hbg:b≠g)(hbT:some b≠vT.ownBlock)(L6:some b≠vF.ownBlock)(hl:l.length<=1000000):
 Calls prog 145 #[.pointer (some ⟨g,0,none⟩),.slice A l.length cA] w (bN g base D fx w vT vF (.tuple #[]) (s.pop l)):=by
 refine(callsIn_wide (n:=4)).1 ?_;have nC:=aj h.1;have EW:=Kd.gY h.2.2.2.2.1;have yO:=Kd.gY h.2.2.2.2.2.1;refine callsIn_of_wp_marks func145 rfl trivial ?_ rfl;simp only[ntmps145,List.size_toArray,List.length_cons,List.length_nil,Nat.reduceAdd,Nat.reduceSub,Array.replicate_succ,Array.replicate_zero,List.push_toArray,List.append_toArray,List.nil_append,List.cons_append]
 gi_wp2_with (refine⟨trivial,?_⟩;gi_at_call 195;refine(Bk.CY Fence.wide (4-1) trivial rfl _ _ _ _).mono ?_;rintro e w'⟨rfl,rfl⟩)
 have h0:aJ ((w.alloc (.cells #[.pointer (some ⟨g,0,none⟩)] 104)).alloc (.cells #[.slice A l.length cA] 23)) base g D fx s vT vF:=aI (aI h _) _;have m0:Mv g w ((w.alloc (.cells #[.pointer (some ⟨g,0,none⟩)] 104)).alloc (.cells #[.slice A l.length cA] 23)) vT vF vT vF:=Mv.bF (af (af (ay _ _) _) _);have x0:((w.alloc (.cells #[.pointer (some ⟨g,0,none⟩)] 104)).alloc (.cells #[.slice A l.length cA] 23)).heap[w.heap.size]? =some (.cells #[.pointer (some ⟨g,0,none⟩)] 104 (0,0)):=bh (dh w _) _;have x1:((w.alloc (.cells #[.pointer (some ⟨g,0,none⟩)] 104)).alloc (.cells #[.slice A l.length cA] 23)).cell? ⟨w.heap.size+1,0,none⟩=some (.slice A l.length cA):=by simp[go_sem]
 have x2:((w.alloc (.cells #[.pointer (some ⟨g,0,none⟩)] 104)).alloc (.cells #[.slice A l.length cA] 23)).heap.size=w.heap.size+2:=by simp
 have x3:Bk.Holds ((w.alloc (.cells #[.pointer (some ⟨g,0,none⟩)] 104)).alloc (.cells #[.slice A l.length cA] 23)) b (.slice A l.length cA) l:=by
  rcases hH with⟨e,e2⟩|⟨off,cap,e,hc⟩
  ·exact .inl ⟨e,e2⟩
  ·exact .inr ⟨off,cap,e,fun j hj=>ak (ak (hc j hj))⟩
 generalize hW0:(w.alloc (.cells #[.pointer (some ⟨g,0,none⟩)] 104)).alloc (.cells #[.slice A l.length cA] 23)=W0 at h0 m0 x0 x1 x2 x3⊢
 have hI0:NM w base g b D fx s vT vF [] W0:=⟨vT,vF,m0,h0,(aa x0 0).trans rfl,x0,by omega,fun k hk=>by
  rcases hk with rfl|rfl|rfl
  ·exact⟨hbg,hbT,L6⟩
  ·exact⟨by omega,fun e=>by have:=EW _ e.symm;omega,fun e=>by have:=yO _ e.symm;omega⟩
  ·exact⟨by omega,fun e=>by have:=EW _ e.symm;omega,fun e=>by have:=yO _ e.symm;omega⟩⟩
 refine wpIn_rangeFunc_ownG rfl (by omega) (gf:=220) (lb:=#[.pointer (some ⟨w.heap.size+1,0,none⟩)]) rfl trivial (enters_of func220 (by kernel_rfl) rfl)
  (Bk.sX Fence.wide (4-1) trivial rfl (by omega) (w.heap.size+1) b _ l hl W0 (by omega) (by omega) x1 x3) CZ (C8 (by omega) (by omega)) (ay _ _) (fun _=>rfl)
  (NM w base g b D fx s vT vF) (fun _ _ _=>False) (NN (by omega)) (fun _ _ _ _ _ hs _ _=>hs) hI0
  (fun x=> {tmps:=#[.pointer (some ⟨g,0,none⟩),.slice A l.length cA,.pointer (some ⟨w.heap.size,0,none⟩),undef,undef,.int .i64 x.2,undef,.slice A l.length cA,.func (.func 220) #[] #[.pointer (some ⟨w.heap.size+1,0,none⟩)],.int .i64 x.1,.int .i64 x.2,undef,undef,undef,undef,undef,undef,undef,undef,undef,undef,undef,undef],defers:= []}) ?assign ?body ?done ?stop
 case assign=>
  intro l x W K hK
  gi_wp2
  exact hK
 case body=>
  rintro lp pre x W⟨qV,qW,m1,h1,c1,Tg,hs1,pZ⟩_;have cm:=pg W base g D fx (gJ s pre) qV qW h1 (ET hI pre);have HS:=hd h1;have HM:=hd m1;have HH:=hd Tg;have HK:=hd pZ;have HC:=hd cm;clear h1 m1 Tg pZ cm
  gi_wp2
  refine⟨trivial,?_⟩;refine(CallsIn.inRound lp (callsIn_wide.2 HC.o)).mono ?_;rintro e W2⟨rfl,qu,sY,m2,h2⟩;have Jp:=hd m2;have iM:=hd h2;clear m2 h2;have pZ:=HK.o;have hs:=HM.o.size;have blt:b<W.heap.size:=by omega
  have lJ: ∀k,k=b\/k=w.heap.size\/k=w.heap.size+1->W2.heap[k]? =W.heap[k]? :=fun k hk=>Jp.o.block k (by rcases hk with rfl|rfl|rfl<;>omega) (pZ k hk).1 (pZ k hk).2.1 (pZ k hk).2.2
  have hk2: ∀k,k=b\/k=w.heap.size\/k=w.heap.size+1->k≠g/\some k≠qu.ownBlock/\some k≠sY.ownBlock:=fun k hk=>by
   have Wp:k<W.heap.size:=by rcases hk with rfl|rfl|rfl<;>omega
   refine⟨(pZ k hk).1,fun e=>?_,fun e=>?_⟩
   ·rcases Jp.o.BG k e.symm with h|h
    ·exact(pZ k hk).2.1 h.symm
    ·omega
   ·rcases Jp.o.Ax k e.symm with h|h
    ·exact(pZ k hk).2.2 h.symm
    ·omega
  have gG:W2.heap[w.heap.size]? =some (.cells #[.pointer (some ⟨g,0,none⟩)] 104 (0,0)):=(lJ _ (.inr (.inl rfl))).trans HH.o;have c2:W2.cell? ⟨w.heap.size,0,none⟩=some (.pointer (some ⟨g,0,none⟩)):=(aa gG 0).trans rfl;have hgb:=iM.o.1;have iR:=iM.o.2.1;have c13:=(aa hgb 13).trans (dy iR _ _ _);have f13:=ah hgb 13;have Hh:=Jp.o.size;have hp1:(gJ s pre).Aq x.2=if(gJ s pre).any.1≠0/\(gJ s pre).any.1≠x.2 then⟨(gJ s pre).any.2.T,(gJ s pre).any.2.F,true⟩else(gJ s pre).any.2:=rfl
  rw[<-wN]at hp1;have HP:=hd hp1;have HB:=hd gG;have G4:=hd lJ;have Th:=hd hk2;clear pZ lJ hk2 gG hgb hp1;have END:Hid (gJ s (pre++ [x])=(gJ s pre).any.2->NM w base g b D fx s vT vF (pre++ [x]) W2):=hd (fun e=>⟨qu,sY,HM.o.trans Jp.o,e▸iM.o,c2,HB.o,by omega,Th.o⟩)
  have ab7:Hid (gJ s (pre++ [x])=⟨(gJ s pre).any.2.T,(gJ s pre).any.2.F,true⟩->NM w base g b D fx s vT vF (pre++ [x]) (W2.setCell ⟨g,13,none⟩ (.bool true))):=hd (fun e=>⟨qu,sY,(HM.o.trans Jp.o).set 13 _,e▸eC iM.o true,by
   have:=(Th.o w.heap.size (.inr (.inl rfl))).1;rw[World.cell?_setCell_far _ _ _ _ (by show g≠w.heap.size;omega)];exact c2,bR HB.o (Th.o w.heap.size (.inr (.inl rfl))).1 _,by simp only[World.setCell];simp;omega,Th.o⟩)
  have ab8:=(Th.o b (.inl rfl)).1;have ab9:=(Th.o (w.heap.size+1) (.inr (.inr rfl))).1;obtain⟨ty,Ti⟩:=ex ((gJ s pre).any.1);rw[<-Ti]at HP⊢;have KF:=hd (nV (B:=W0.heap.size) HS.o Jp.o);by_cases h1:ty=0
  ·have g1:(ty !=0)=false:=by simp[h1]
   have E:=hd (END.o (by rw[HP.o,if_neg (fun h=>h.1 h1)]));clear h1 Ti
   gi_wp2
   exact⟨KF.o,⟨G4.o b (.inl rfl),G4.o _ (.inr (.inr rfl))⟩,E.o⟩
  ·have g1:(ty !=0)=true:=by simpa using h1
   by_cases h2:ty=x.2
   ·have g2:(ty !=x.2)=false:=by simpa using h2
    have E:=hd (END.o (by rw[HP.o,if_neg (fun h=>h.2 h2)]));clear h1 h2 Ti
    gi_wp2
    exact⟨KF.o,⟨G4.o b (.inl rfl),G4.o _ (.inr (.inr rfl))⟩,E.o⟩
   ·have g2:(ty !=x.2)=true:=by simpa using h2
    have E:=hd (ab7.o (by rw[HP.o,if_pos ⟨h1,h2⟩]));clear h1 h2 Ti
    gi_wp2
    exact⟨AO KF.o,⟨(dX W2 ⟨g,13,none⟩ _ b ab8).trans (G4.o b (.inl rfl)),(dX W2 ⟨g,13,none⟩ _ _ ab9).trans (G4.o _ (.inr (.inr rfl)))⟩,E.o⟩
 case done=>
  rintro Dq ys W hD rfl⟨qV,qW,m1,h1,c1,Tg,hs1,pZ⟩hK
  gi_wp2
  refine⟨by simp,.inl ⟨_,_,rfl,run_takeDeferred hK,?_⟩⟩;refine⟨_,results_none rfl _ _ _,rfl,qV,qW,m1.other (grownBy_putObj' W Dq _) (fun r e=>by cases e;omega),?_⟩;rw[<-Hf s l];exact mO h1 (grownBy_putObj' W Dq _) (fun r e=>by cases e;exact⟨_,hK,rfl⟩)
 case stop=>
  rintro Dq cc pre W _ _ hf _;exact hf.elim
end Go.Proofs.YthehihjcpiadgaaGreat
namespace Go.Proofs.YthehihjcpiadgaaGreat
open Go.RowKit Go.Proofs.Wz.PrintWords Go.Shelf
def nh(w:World)(g:Nat)(vT vF v:Value)(xs:List Int):Prop:=
 ∃A c b,v= .slice A xs.length c/\Bk.Holds w b v xs/\(b<w.heap.size\/A=none)/\b<=w.heap.size/\b≠g/\some b≠vT.ownBlock/\some b≠vF.ownBlock
theorem Rq(xs:List Int)(j:Nat)(hj:j<xs.length):rd xs (j:Int)=xs[j]?.getD 0:=by
 simp[rd,gq]
theorem ze{w:World}{base g:Nat}{ok:Nat->Prop}{vT vF v:Value}{xs:List Int}(h:bl w base ok v xs)(hok: ∀k,ok k->k≠g/\some k≠vT.ownBlock/\some k≠vF.ownBlock)(hg:g<w.heap.size)(hT: ∀k,vT.ownBlock=some k->k<w.heap.size)(hF: ∀k,vF.ownBlock=some k->k<w.heap.size):nh w g vT vF v xs:=by
 rcases Nat.eq_zero_or_pos xs.length with h0|hp
 ·obtain rfl:=List.eq_nil_of_length_eq_zero h0
  obtain⟨A,c,rfl⟩:=Kd.ai h;refine⟨A,c,?_⟩;cases A with
  |none=>exact⟨w.heap.size,rfl,.inl ⟨⟨c,rfl⟩,rfl⟩,.inr rfl,aU _,by omega,fun e=>by have:=hT _ e.symm;omega,fun e=>by have:=hF _ e.symm;omega⟩
  |some ad=>
   obtain⟨inner,hown⟩:=Kd.Eg h;rcases hown.2 with⟨hn,_⟩|⟨gb,cap,cur,he,hb,hh,_⟩
   ·cases hn
   ·injection he with GQ _ _
    injection GQ with GQ;subst GQ;have hq:=h.1 gb (by simp[Value.ownBlock]);obtain⟨h1,h2,h3⟩:=hok gb hq;exact⟨gb,rfl,.inr ⟨0,c,rfl,fun j hj=>absurd hj (by simp)⟩,.inl (aj hh),by have:=aj hh;omega,h1,h2,h3⟩
 ·obtain⟨gb,cap,rfl,hb,bI,-⟩:=Kd.qz h hp
  obtain⟨h1,h2,h3⟩:=hok gb (h.1 gb (by simp[Value.ownBlock]));refine⟨_,cap,gb,rfl,.inr ⟨0,cap,rfl,fun j hj=>?_⟩,.inl bI,by omega,h1,h2,h3⟩;have hc:=(Kd.Gz (0:Int) h (j:Int) (by omega) (by omega)).1;rw[dF]at hc;rw[Nat.zero_add];refine hc.trans ?_;rw[<-Rq xs j hj];rfl
theorem Jq{w:World}{g n:Nat}{vT vF:Value}{xs:List Int}{t:TypeId}(hn:w.heap[n]? =some (.cells (encs (Value.int .i64) xs).toArray t (0,0)))(hg:n≠g)(hT:some n≠vT.ownBlock)(hF:some n≠vF.ownBlock):nh w g vT vF (.slice (some ⟨n,0,none⟩) xs.length xs.length) xs:=by
 refine⟨_,_,n,rfl,.inr ⟨0,xs.length,rfl,fun j hj=>?_⟩,.inl (aj hn),by have:=aj hn;omega,hg,hT,hF⟩;rw[Nat.zero_add,aa hn j];simp[encs,hj]
theorem NQ{w:World}{g:Nat}{vT vF v:Value}{xs:List Int}(h:nh w g vT vF v xs)(hl:xs.length<=1000000): ∃A c,v= .slice A xs.length c/\bf w A xs:=by
 obtain⟨A,c,b,rfl,hH,-⟩:=h;rcases hH with⟨⟨c1,e⟩,rfl⟩|⟨off,cap,e,hc⟩
 ·injection e with e1 e2 e3
  subst e1;exact⟨none,c,rfl,Kd.iw _ _⟩
 ·injection e with e1 e2 e3
  subst e1;refine⟨_,c,rfl,Kd.kQ (h1:=fun _=>rfl) (d:=(0:Int)) (enc:=Value.int .i64) ⟨rfl,by omega,fun _=>⟨_,rfl,fun j hj=>?_⟩⟩⟩;have:=hc j hj;simp only[Addr.add]
  split
  ·rename_i h0;subst h0;simpa[gq]using this
  ·simpa[gq]using this
theorem gm(w:World)(base g:Nat)(D:Nat->Prop)(fx:List Value)(s:Sp.St)(vT vF v:Value)(h:aJ w base g D fx s vT vF)(hI:Sp.cq s)(l:List Int)(hA:nh w g vT vF v l)(hl:l.length<=1000000):
 Calls prog 145 #[.pointer (some ⟨g,0,none⟩),v] w (bN g base D fx w vT vF (.tuple #[]) (s.pop l)):=by
 obtain⟨A,c,b,rfl,hH,hbl,hb,h1,h2,h3⟩:=hA;exact Hg w base g D fx s vT vF h hI A c b l hH hb h1 h2 h3 hl
theorem dP(w:World)(base g:Nat)(D:Nat->Prop)(fx:List Value)(s:Sp.St)(vT vF v:Value)(h:aJ w base g D fx s vT vF)(l:List Int)(hA:nh w g vT vF v l)(hl:s.T.length+l.length<=1000000):
 Calls prog 146 #[.pointer (some ⟨g,0,none⟩),v] w (bN g base D fx w vT vF (.tuple #[]) (s.push l)):=by
 obtain⟨A,c,rfl,hC⟩:=NQ hA (by omega);exact EG w base g D fx s vT vF h A c l hC hl
end Go.Proofs.YthehihjcpiadgaaGreat
namespace Go.Proofs.YthehihjcpiadgaaGreat
open Go.RowKit Go.Proofs.Wz.PrintWords
namespace Sp
def St.leave(s:St):St:=
 ⟨(s.pop s.top.f1.f1).T.take (min (s.pop s.top.f1.f1).T.length s.top.f2.toNat),(s.pop s.top.f1.f1).F,(s.pop s.top.f1.f1).bad||decide (((s.pop s.top.f1.f1).T.length:Int)>s.top.f2)⟩
def St.err(s:St)(b:Bool):St:=⟨s.T,s.F,s.bad||b⟩
def St.less(s:St):St:=⟨s.T,if 1<s.F.length then s.F.take (s.F.length-1)else s.F,s.bad⟩
def St.end_(s:St):St:=((s.leave.err (decide (s.top.f0=4)&&decide (s.top.f1.f0≠s.top.f1.f1))).less).push s.top.f1.f1
def St.other(s:St):St:=St.push ⟨s.leave.T,s.leave.F.set (s.leave.F.length-1) ⟨5,s.top.f1,s.top.f2,false⟩,s.leave.bad⟩ s.top.f1.f0
def St.open_(s:St)(op:Int)(t:ig):St:=
 let a:=(if op=4 then s.pop [127]else s).pop t.f0
 St.push ⟨a.T,a.F++ [⟨op,t,a.T.length,false⟩],a.bad⟩ t.f0
def St.chosen(s:St):St:=
 let a:=(s.pop [127]).any
 let b:=a.2.any
 (b.2.err (decide (a.1≠0)&&decide (b.1≠0)&&decide (a.1≠b.1))).push [max a.1 b.1]
def St.look(s:St)(l:List Int):St×List Int:=
 l.foldr (fun want a=>let b:=a.1.any;(b.2.err (decide (b.1≠0)&&decide (b.1≠want)),a.2++ [b.1])) (s,[])
def St.back(s:St)(l:List Int):St:=s.push l.reverse
def St.labels(s:St)(n:Nat):List Int->St×Bool
 | []=>(s,true)
 |k::l=>if(label (s.at k)).length≠n then(⟨s.T,s.F,true⟩,false)else let a:=s.look (label (s.at k));St.labels (a.1.back a.2) n l
def St.table(s:St)(l:List Int):St:=
 let a:=s.pop [127]
 if l.length=0 then⟨a.T,a.F,true⟩else
 let last:=label (a.at (rd l ((l.length:Int)-1)))
 let b:=a.labels last.length l
 if b.2 then(b.1.pop last).die else b.1
def St.plain(s:St)(op:Int):St:=
 if eD op&&decide (54<=op)then s.pop [127,tM op]
 else if eD op then(s.pop [127]).push [tM op]
 else if dx op≠0 then s.push [dx op]
 else if fB op then(s.pop (fR op)).push (gH op)
 else if op=63 then s.push [127]
 else if op=64 then(s.pop [127]).push [127]
 else if op=64520\/op=64522\/op=64523 then s.pop [127,127,127]
 else s
structure Env where
 M:bL
 L:List Int
 S:ig
def St.calls(s:St)(E:Env)(i:aW):St:=
 let t:=(aM E.M i.f1).getD cv
 let a:=s.pop t.f0
 if i.f0=16 then a.push t.f1 else(a.err (decide (t.f1≠E.S.f1))).die
def St.branches(s:St)(E:Env)(i:aW):St:=
 if i.f0=12 then(s.pop (label (s.at i.f1))).die
 else if i.f0=13 then((s.pop [127]).pop (label (s.at i.f1))).push (label (s.at i.f1))
 else if i.f0=14 then s.table i.f4
 else(s.pop E.S.f1).die
def St.places(s:St)(E:Env)(i:aW):St:=
 if i.f0=32 then s.push [rd E.L i.f1]
 else if i.f0=33 then s.pop [rd E.L i.f1]
 else if i.f0=34 then(s.pop [rd E.L i.f1]).push [rd E.L i.f1]
 else if i.f0=35 then s.push [(dg E.M.f4 i.f1).f0]
 else if i.f0=36 then(s.pop [(dg E.M.f4 i.f1).f0]).err (!(dg E.M.f4 i.f1).f1)
 else s
def St.step(s:St)(E:Env)(i:aW):St:=
 if i.f0=0 then s.die
 else if opens i.f0 then s.open_ i.f0 ((aQ E.M i.f1).getD cv)
 else if i.f0=5 then s.other
 else if i.f0=11 then s.end_
 else if i.f0=12\/i.f0=13\/i.f0=14\/i.f0=15 then s.branches E i
 else if i.f0=16\/i.f0=18 then s.calls E i
 else if i.f0=26 then s.any.2
 else if i.f0=27 then s.chosen
 else if 32<=i.f0/\i.f0<=36 then s.places E i
 else s.plain i.f0
def there(n many:Int):Bool:=decide (0<=n/\n<many)
def St.known(s:St)(E:Env)(i:aW):Bool:=
 if opens i.f0 then(aQ E.M i.f1).isSome
 else if eD i.f0 then there i.f1 E.M.f3.length
 else if i.f0=12\/i.f0=13 then there i.f1 s.F.length
 else if i.f0=14 then !i.f4.any (fun n=> !there n s.F.length)
 else if i.f0=16\/i.f0=18 then(aM E.M i.f1).isSome
 else if 32<=i.f0/\i.f0<=34 then there i.f1 E.L.length
 else if i.f0=35\/i.f0=36 then there i.f1 E.M.f4.length
 else if i.f0=63\/i.f0=64\/i.f0=64523 then there i.f1 E.M.f3.length
 else if i.f0=64520 then there i.f1 E.M.f3.length&&there i.f2 E.M.f6.length
 else if i.f0=64521 then there i.f1 E.M.f6.length
 else if i.f0=64522 then there i.f1 E.M.f3.length&&there i.f2 E.M.f3.length
 else true
def uz(i:aW):Bool:=MB i.f0||(opens i.f0&&decide (0<=i.f1))
def St.dQ(s:St)(E:Env)(plain:Bool)(i:aW):Int:=
 if plain&&uz i then 24 else if !s.known E i then 23 else if(s.step E i).bad then 14 else 0
end Sp
end Go.Proofs.YthehihjcpiadgaaGreat
namespace Go.Proofs.YthehihjcpiadgaaGreat
open Go.RowKit Go.Proofs.Wz.PrintWords Go.Proofs.Wz.bM
theorem rR{w:World}{base g:Nat}{D:Nat->Prop}{fx:List Value}{s:Sp.St}{vT vF:Value}(h:aJ w base g D fx s vT vF)(j:Nat)(hj:j<s.F.length):
 ∃gf cap v1 v2,vF= .slice (some ⟨gf,0,none⟩) s.F.length cap/\gf≠g/\some gf≠vT.ownBlock/\gf<w.heap.size/\
  w.cell? ⟨gf,j*5,none⟩=some (.int .i64 (bB s.F (j:Int)).f0)/\w.cell? ⟨gf,j*5+1,none⟩=some v1/\w.cell? ⟨gf,j*5+2,none⟩=some v2/\w.cell? ⟨gf,j*5+3,none⟩=some (.int .i64 (bB s.F (j:Int)).f2)/\w.cell? ⟨gf,j*5+4,none⟩=some (.bool (bB s.F (j:Int)).f3)/\
  bl w base (fun k=>k≠g/\some k≠vT.ownBlock/\some k≠vF.ownBlock) v1 (bB s.F (j:Int)).f1.f0/\bl w base (fun k=>k≠g/\some k≠vT.ownBlock/\some k≠vF.ownBlock) v2 (bB s.F (j:Int)).f1.f1/\(∀i,w.frozen? ⟨gf,j*5+i,none⟩=false):=by
 obtain⟨gf,cap,wJ,sS,xd,xe⟩:=fC h (by omega);obtain⟨hg0,iR,hb,sR,hT,hF,o9,hD⟩:=h;subst wJ;have bI:gf<w.heap.size:=Kd.gY hF gf (by simp[Value.ownBlock]);have hgT:some gf≠vT.ownBlock:=(hF.1 gf (by simp[Value.ownBlock])).2;obtain⟨cs,lJ,qc,hcc,oJ⟩:=Kd.kR hF IU (j:Int) (by omega) (by omega);obtain⟨v1,v2,hcs,hr1,hr2⟩:=kV qc;subst hcs;rw[dF]at hcc oJ hr1 hr2;refine⟨gf,cap,v1,v2,rfl,sS,hgT,bI,hcc 0 _ rfl,hcc 1 _ rfl,hcc 2 _ rfl,hcc 3 _ rfl,hcc 4 _ rfl,Kd.bQ hr1 (fun k hk=>⟨hk.1.1,hk.1.2,fun e=>hk.2 (by simpa[Value.ownBlock]using e)⟩),Kd.bQ hr2 (fun k hk=>⟨hk.1.1,hk.1.2,fun e=>hk.2 (by simpa[Value.ownBlock]using e)⟩),fun i=>oJ i⟩
theorem lu{w w':World}{base g:Nat}{vT vF dI eG v:Value}{xs:List Int}{ok:Nat->Prop}(h:bl w base ok v xs)(m:Mv g w w' vT vF dI eG)(hok: ∀k,ok k->k≠g/\some k≠vT.ownBlock/\some k≠vF.ownBlock):
 bl w' base (fun k=>k≠g/\some k≠dI.ownBlock/\some k≠eG.ownBlock) v xs:=by
 refine Kd.bQ (Kd.jN (Kd.fW h) (fun k hk=>m.block k hk.2.2.1 (hok k hk.1).1 (hok k hk.1).2.1 (hok k hk.1).2.2)) (fun k hk=>?_);obtain⟨h1,h2,h3⟩:=hok k hk.1;have bI:=hk.2.2.1;refine⟨h1,fun e=>?_,fun e=>?_⟩
 ·rcases m.BG k e.symm with q|q
  ·exact h2 q.symm
  ·omega
 ·rcases m.Ax k e.symm with q|q
  ·exact h3 q.symm
  ·omega
theorem aV{w:World}{base g:Nat}{D:Nat->Prop}{fx:List Value}{s:Sp.St}{vT vF:Value}(h:aJ w base g D fx s vT vF):g<w.heap.size/\(∀k,vT.ownBlock=some k->k<w.heap.size)/\ ∀k,vF.ownBlock=some k->k<w.heap.size:=⟨aj h.1,Kd.gY h.2.2.2.2.1,Kd.gY h.2.2.2.2.2.1⟩
theorem fO{w:World}{base g:Nat}{D:Nat->Prop}{fx:List Value}{s:Sp.St}{vT vF v:Value}{xs:List Int}(h:aJ w base g D fx s vT vF)(hr:bl w base (fun k=>k≠g/\some k≠vT.ownBlock/\some k≠vF.ownBlock) v xs):nh w g vT vF v xs:=
 ze hr (fun _ hk=>hk) (aV h).1 (aV h).2.1 (aV h).2.2
theorem Mv.alloc{g:Nat}{a b:World}{t f t1 f1:Value}(h:Mv g a b t f t1 f1)(o:Obj):Mv g a (b.alloc o) t f t1 f1:=
 h.trans (Mv.bF (af (ay _ _) o))
theorem Mv.iq{g:Nat}{a b:World}{t f t1 f1:Value}(h:Mv g a b t f t1 f1){n j:Nat}(hn:a.heap.size<=n)(v:Value):Mv g a (b.setCell ⟨n,j,none⟩ v) t f t1 f1:=
 ⟨h.os,h.tape,h.output,by simp only[World.setCell];simpa using h.size,fun k hk hg ht hf=>(dX b ⟨n,j,none⟩ v k (by show k≠n;omega)).trans (h.block k hk hg ht hf),h.BG,h.Ax⟩
theorem KD{w:World}{base n t:Nat}{ok:Nat->Prop}{vF:Value}{xs:List xB}{cs:Array Value}(h:iG w base ok vF xs)(hc:w.heap[n]? =some (.cells cs t (0,0)))(t1:t≠3)(hn:some n≠vF.ownBlock):iG w base (fun k=>ok k/\k≠n) vF xs:=by
 obtain⟨h0,inner,ho,hr⟩:=h;refine⟨fun k hk=>⟨h0 k hk,fun e=>hn (by rw[hk,e])⟩,inner,ho,hr.lU (fun _ _ hp=>Kd.fV L3 (fun k hk=>⟨⟨hk.1.1,hk.2⟩,hk.1.2⟩) (Kd.Qu hp hc (fun q hq=>?_)))⟩;simp[L3,qo,Kd.Gy,Kd.pair,Kd.slice,Kd.int,Kd.bool,Kd.scalar]at hq;omega
theorem qX{w w':World}{base g:Nat}{D:Nat->Prop}{fx:List Value}{s:Sp.St}{vT vF:Value}(h:aJ w base g D fx s vT vF)(hs:w.heap.size<=w'.heap.size){n:Nat}(hn: ∀k,k≠n->k<w.heap.size->w'.heap[k]? =w.heap[k]?)(ho: ∃cs t,w.heap[n]? =some (.cells cs t (0,0))/\t≠3/\t≠111)(hnF:some n≠vF.ownBlock):aJ w' base g D fx s vT vF:=by
 obtain⟨hg0,iR,hb,sR,hT,hF,o9,hD⟩:=h;obtain⟨cs,t,hc,t1,t3⟩:=ho;have hgn:g≠n:=fun e=>by subst e;rw[hg0]at hc;cases hc;exact t3 rfl
 refine⟨(hn g hgn (aj hg0)).trans hg0,iR,hb,sR,?_,?_,o9,fun k hk=>jv (hD k hk) hs⟩
 ·refine Kd.bQ (Kd.jN (Kd.fW hT) (fun k hk=>hn k (fun e=>?_) hk.2.2.1)) (fun k hk=>hk.1)
  obtain⟨q,hq,cells,hcc⟩:=hk.2.2.2;subst e;rw[hc]at hcc;cases hcc;simp[Kd.int,Kd.scalar]at hq;exact t1 hq
 ·exact Kd.bQ (Kd.jN (Kd.fW (KD hF hc t1 hnF)) (fun k hk=>hn k hk.1.2 hk.2.2.1)) (fun k hk=>hk.1.1)
theorem aY{w w':World}{base g:Nat}{D:Nat->Prop}{fx:List Value}{s:Sp.St}{vT vF:Value}(h:aJ w base g D fx s vT vF)(hb:Below w.heap.size w w'):aJ w' base g D fx s vT vF:=
 ⟨(hb.block g (aj h.1)).trans h.1,h.2.1,h.2.2.1,h.2.2.2.1,Kd.cM h.2.2.2.2.1 hb,Kd.cM h.2.2.2.2.2.1 hb,h.2.2.2.2.2.2.1,fun k hk=>jv (h.2.2.2.2.2.2.2 k hk) hb.size⟩
theorem Jr(s:Sp.St):s.any.2.F=s.F:=by unfold Sp.St.any;split<;>rfl
theorem Ux(s:Sp.St)(x:Int):(s.Aq x).F=s.F:=by unfold Sp.St.Aq;split<;>exact Jr s
theorem uA(s:Sp.St)(l:List Int):(s.pop l).F=s.F:=by
 unfold Sp.St.pop;induction l with
 |nil=>rfl
 |cons a l ih=>rw[List.foldr_cons,Ux];exact ih
theorem EX{w:World}{base g n k h:Nat}{D:Nat->Prop}{fx:List Value}{s:Sp.St}{P:Option Addr}{vF:Value}(hS:aJ w base g D fx s (.slice P n k) vF)(hh:h<=s.T.length):aJ (w.setCell ⟨g,11,none⟩ (.slice P h k)).drew base g D fx ⟨s.T.take h,s.F,s.bad⟩ (.slice P h k) vF:=by
 obtain⟨hg0,iR,hb,sR,hT,hF,o9,hD⟩:=hS;exact bT (ov (s:=s) hg0 iR hb sR (Kd.nR (m:=h) hT hh) (Kd.bQ hF (fun k hk=>⟨hk.1,by cases P<;>exact hk.2⟩)) o9 hD) 1
theorem jH{w w':World}{base:Nat}{ok:Nat->Prop}{v:Value}{xs:List Int}(h:bl w base ok v xs){n t:Nat}{cs:Array Value}(hn: ∀k,k≠n->w'.heap[k]? =w.heap[k]?)(hc:w.heap[n]? =some (.cells cs t (0,0)))(ht:t≠3):bl w' base ok v xs:=by
 refine Kd.bQ (Kd.jN (Kd.fW h) (fun k hk=>hn k (fun e=>?_))) (fun k hk=>hk.1);obtain⟨q,hq,cells,hcc⟩:=hk.2.2.2;subst e;rw[hc]at hcc;cases hcc;simp[Kd.int,Kd.scalar]at hq;exact ht hq
theorem mP(W:World)(n k:Nat)(h:k≠n)(a b c d e:Value):(((((W.setCell ⟨n,0,none⟩ a).setCell ⟨n,1,none⟩ b).setCell ⟨n,2,none⟩ c).setCell ⟨n,3,none⟩ d).setCell ⟨n,4,none⟩ e).heap[k]? =W.heap[k]? :=
 (dX _ ⟨n,4,none⟩ e k h).trans ((dX _ ⟨n,3,none⟩ d k h).trans ((dX _ ⟨n,2,none⟩ c k h).trans ((dX _ ⟨n,1,none⟩ b k h).trans (dX _ ⟨n,0,none⟩ a k h))))
def EY(g base:Nat)(D:Nat->Prop)(fx:List Value)(w:World)(vT vF:Value)(s:Sp.St)(e:Ending)(w':World):Prop:=
 ∃v1 v2,e= .returned (.agg #[.int .i64 s.top.f0,v1,v2,.int .i64 s.top.f2,.bool s.top.f3])/\ ∃dI eG,Mv g w w' vT vF dI eG/\aJ w' base g D fx s.leave dI eG/\
  bl w' base (fun k=>k≠g/\some k≠dI.ownBlock/\some k≠eG.ownBlock) v1 s.top.f1.f0/\bl w' base (fun k=>k≠g/\some k≠dI.ownBlock/\some k≠eG.ownBlock) v2 s.top.f1.f1
theorem uB(w:World)(base g:Nat)(D:Nat->Prop)(fx:List Value)(s:Sp.St)(vT vF:Value)(h:aJ w base g D fx s vT vF)(hI:Sp.cq s)(ha:s.top.f1.f1.length<=1000000):Calls prog 147 #[.pointer (some ⟨g,0,none⟩)] w (EY g base D fx w vT vF s):=by
 obtain⟨j,hj⟩: ∃j,s.F.length=j+1:=⟨s.F.length-1,by have:=hI.1;omega⟩;obtain⟨gf,cap,v1,v2,wJ,sS,acd,Uy,m0,m1,m2,m3,m4,r1,r2,hfz⟩:=rR h j (by omega);have ng:s.top=bB s.F (j:Int):=by unfold Sp.St.top;rw[hj];congr 1;omega
 rw[<-ng]at m0 m3 m4 r1 r2;have ej:s.F.length-1=j:=by omega
 obtain⟨nC,EW,yO⟩:=aV h;have nD:=hd (fun o=>jT (w.alloc o) base g D fx s vT vF (aI h o) hI gf cap wJ);rw[ej]at nD;obtain⟨A1,c1,rfl⟩:=Kd.ai r1;obtain⟨A2,c2,rfl⟩:=Kd.ai r2;obtain⟨t,ht⟩:=ex (s.pop s.top.f1.f1);have hIt:Sp.cq t:=ht▸Sp.iA hI _;have htF:t.F=s.F:=by rw[ht];exact uA _ _
 have hh:0<=s.top.f2/\s.top.f2<=t.T.length:=by
  have:=hIt.2.2.2.1 (j:Int) (by omega) (by rw[htF];omega);rw[htF,<-ng]at this;exact this
 have XT:Hid (∀nt,Calls prog 145 #[.pointer (some ⟨g,0,none⟩),.slice A2 s.top.f1.f1.length c2] (((w.alloc (.cells #[.int .i64 0,.slice none 0 0,.slice none 0 0,.int .i64 0,.bool false] 113)).drewN nt).alloc (kM s.top A1 c1 A2 c2))
  (fun e W=>e= .returned (.tuple #[])/\ ∃dI eG,Mv g w W vT vF dI eG/\aJ W base g D fx t dI eG/\W.heap[w.heap.size]? =some (.cells #[.int .i64 0,.slice none 0 0,.slice none 0 0,.int .i64 0,.bool false] 113 (0,0))/\W.heap[w.heap.size+1]? =some (.cells #[.int .i64 s.top.f0,.slice A1 s.top.f1.f0.length c1,.slice A2 s.top.f1.f1.length c2,.int .i64 s.top.f2,.bool s.top.f3] 113 (0,0))/\some w.heap.size≠eG.ownBlock/\
   bl W base (fun k=>k≠g/\some k≠dI.ownBlock/\some k≠eG.ownBlock) (.slice A1 s.top.f1.f0.length c1) s.top.f1.f0/\bl W base (fun k=>k≠g/\some k≠dI.ownBlock/\some k≠eG.ownBlock) (.slice A2 s.top.f1.f1.length c2) s.top.f1.f1)):=hd (fun nt=>by
  have m0:Mv g w (((w.alloc (.cells #[.int .i64 0,.slice none 0 0,.slice none 0 0,.int .i64 0,.bool false] 113)).drewN nt).alloc (kM s.top A1 c1 A2 c2)) vT vF vT vF:=(((Mv.refl g w vT vF).alloc _).drewN nt).alloc _;have h0:=aI (bT (aI h (.cells #[.int .i64 0,.slice none 0 0,.slice none 0 0,.int .i64 0,.bool false] 113)) nt) (kM s.top A1 c1 A2 c2);have x0:(((w.alloc (.cells #[.int .i64 0,.slice none 0 0,.slice none 0 0,.int .i64 0,.bool false] 113)).drewN nt).alloc (kM s.top A1 c1 A2 c2)).heap[w.heap.size]? =some (.cells #[.int .i64 0,.slice none 0 0,.slice none 0 0,.int .i64 0,.bool false] 113 (0,0)):=bh (ez (dh w _) nt) _
  have x1:(((w.alloc (.cells #[.int .i64 0,.slice none 0 0,.slice none 0 0,.int .i64 0,.bool false] 113)).drewN nt).alloc (kM s.top A1 c1 A2 c2)).heap[w.heap.size+1]? =some (.cells #[.int .i64 s.top.f0,.slice A1 s.top.f1.f0.length c1,.slice A2 s.top.f1.f1.length c2,.int .i64 s.top.f2,.bool s.top.f3] 113 (0,0)):=by
   have:=dh ((w.alloc (.cells #[.int .i64 0,.slice none 0 0,.slice none 0 0,.int .i64 0,.bool false] 113)).drewN nt) (kM s.top A1 c1 A2 c2);simpa using this
  have x2:(((w.alloc (.cells #[.int .i64 0,.slice none 0 0,.slice none 0 0,.int .i64 0,.bool false] 113)).drewN nt).alloc (kM s.top A1 c1 A2 c2)).heap.size=w.heap.size+2:=by simp
  generalize ((w.alloc (.cells #[.int .i64 0,.slice none 0 0,.slice none 0 0,.int .i64 0,.bool false] 113)).drewN nt).alloc (kM s.top A1 c1 A2 c2)=W0 at m0 h0 x0 x1 x2⊢;have q1:=lu r1 m0 (fun _ hk=>hk);have q2:=lu r2 m0 (fun _ hk=>hk);refine(gm W0 base g D fx s vT vF _ h0 hI s.top.f1.f1 (fO h0 q2) ha).mono ?_;rintro e W⟨rfl,dI,eG,m,hS⟩;have nT: ∀k,k=w.heap.size\/k=w.heap.size+1->some k≠vT.ownBlock/\some k≠vF.ownBlock:=fun k hk=>⟨fun e=>by have:=EW _ e.symm;omega,fun e=>by have:=yO _ e.symm;omega⟩
  refine⟨rfl,dI,eG,m0.trans m,ht▸hS,(m.block _ (by omega) (by omega) (nT _ (.inl rfl)).1 (nT _ (.inl rfl)).2).trans x0,(m.block _ (by omega) (by omega) (nT _ (.inr rfl)).1 (nT _ (.inr rfl)).2).trans x1,fun e=>?_,lu q1 m (fun _ hk=>hk),lu q2 m (fun _ hk=>hk)⟩;rcases m.Ax _ e.symm with q|q
  ·exact(nT _ (.inl rfl)).2 q.symm
  ·omega)
 have hlv:s.leave=⟨t.T.take s.top.f2.toNat,t.F,t.bad||decide ((t.T.length:Int)>s.top.f2)⟩:=by
  unfold Sp.St.leave;rw[<-ht,Nat.min_eq_right (by omega)]
 have NR:=hd hlv;have HIT:=hd hIt;have HH:=hd hh;have Tj:=hIt.2.2.1;have hh0:=hh.1;have Tg:=hh.2;have HS:=hd h;clear h hI r1 r2 hfz ha hj ej ng EW yO hlv ht htF hIt hh;obtain⟨bb,ek⟩:=ex t.bad;obtain⟨gt,hgt⟩:=ex (decide ((t.T.length:Int)>s.top.f2));have agM:=hgt.symm;have cE:=hd ek;have HGT:=hd hgt;clear ek hgt;cases bb with
 |true=>
  go_enter func147,ntmps147
  go_wp2_with (first|((go_at_call 144);(with_reducible refine(nD.o _).mono ?_);rintro e w'⟨rfl,nt,rfl⟩)|((go_at_call 145);(with_reducible refine(XT.o _).mono ?_);rintro e W⟨rfl,dI,eG,m,hS,x0,x1,xF,q1,q2⟩;have c11:=(aa hS.1 11).trans (kY hS.2.1 _ _ _);have c13:=(aa hS.1 13).trans (dy hS.2.1 _ _ _);rw[<-cE.o]at c13;have f11:=ah hS.1 11;have f13:=ah hS.1 13;have y0:=(aa x1 3).trans rfl;obtain⟨P,kT,rfl⟩:=Kd.ai hS.2.2.2.2.1;have HM:=hd m;have iM:=hd hS;have Hi:=hd x0;have fP:=hd x1;have HXF:=hd xF;have Qd:=hd q1;have qf:=hd q2;clear m hS x0 x1 xF q1 q2))
  refine st 18 (fun w'=>w'.cell? ⟨g,13,none⟩=some (.bool true)) [17] c13 (fun ag=>?_);refine cZ 0 13 1 14 2 15 ?_;refine pu 3 16 ?_;refine tk 4 17 ag ?_;refine cZ 5 18 6 19 7 20 ?_;refine cZ 8 21 9 22 10 23 ?_;refine cZ 11 24 12 25 13 26 ?_;refine cZ 14 27 15 28 16 29 ?_;refine la 17 ?_;refine dn ?_
  go_wp2_with fail
  have h3:aJ (W.setCell ⟨g,13,none⟩ (.bool true)).drew base g D fx ⟨t.T,t.F,true⟩ (.slice P t.T.length kT) eG:=bT (eC iM.o _) 1;have z0:=dM (bR Hi.o (p:=⟨g,13,none⟩) (by show w.heap.size≠g;omega) (.bool true));have z1:=dM (bR fP.o (p:=⟨g,13,none⟩) (by show w.heap.size+1≠g;omega) (.bool true));have m3:Mv g w (W.setCell ⟨g,13,none⟩ (.bool true)).drew vT vF _ eG:=(HM.o.set 13 (.bool true)).drewN 1;have q1:bl (W.setCell ⟨g,13,none⟩ (.bool true)).drew base _ _ _:=Kd.bU (Kd.dr Qd.o (p:=⟨g,13,none⟩) (fun k hk=>hk.1) (.bool true)) 1;have q2:bl (W.setCell ⟨g,13,none⟩ (.bool true)).drew base _ _ _:=Kd.bU (Kd.dr qf.o (p:=⟨g,13,none⟩) (fun k hk=>hk.1) (.bool true)) 1;clear c11 c13 f11 f13 y0;generalize (W.setCell ⟨g,13,none⟩ (.bool true)).drew=W3 at h3 z0 z1 m3 q1 q2⊢;have c11:=(aa h3.1 11).trans (kY h3.2.1 _ _ _);have f11:=ah h3.1 11;have y0:=(aa z1 3).trans rfl;have hcap:s.top.f2<=(kT:Int):=by have:=(Kd.bA h3.2.2.2.2.1).2.1;omega
  have hmin:(if s.top.f2<(t.T.length:Int)then s.top.f2 else(t.T.length:Int))=s.top.f2:=by split<;>omega
  have uC:=hd (EX (h:=s.top.f2.toNat) h3 (by show s.top.f2.toNat<=t.T.length;omega));have Uz:=hd q1;have UA:=hd q2;clear q1 q2;have qY:=hd h3;have UB:=hd z0;have HZ1:=hd z1;have NS:=hd m3;clear h3 z0 z1 m3;refine st 17 (fun w'=>w'.cell? ⟨g,11,none⟩=some (.slice P t.T.length kT)/\w'.cell? ⟨w.heap.size+1,3,none⟩=some (.int .i64 s.top.f2)) [16] ⟨c11,y0⟩ (fun ag=>?_);refine cZ 0 30 1 31 2 32 ?_;refine pu 3 33 ?_;refine tk 4 34 ag ?_;refine cZ 5 35 6 36 7 37 ?_;refine tk 8 38 ag ?_;refine pu2 9 39 10 40 ?_;refine tk 11 41 ag ?_;refine cZ 12 42 13 43 14 44 ?_;refine pu 15 45 ?_;refine la 16 ?_;refine dn ?_;have h4:=uC.o;have z0:=dM (bR UB.o (p:=⟨g,11,none⟩) (by show w.heap.size≠g;omega) (.slice P s.top.f2.toNat kT));have z1:=dM (bR HZ1.o (p:=⟨g,11,none⟩) (by show w.heap.size+1≠g;omega) (.slice P s.top.f2.toNat kT));have m4:Mv g w (W3.setCell ⟨g,11,none⟩ (.slice P s.top.f2.toNat kT)).drew vT vF (.slice P s.top.f2.toNat kT) eG:=((NS.o.set 11 (.slice P s.top.f2.toNat kT)).drewN 1).CQ (by cases P<;>rfl);have q1:bl (W3.setCell ⟨g,11,none⟩ (.slice P s.top.f2.toNat kT)).drew base (fun k=>k≠g/\some k≠(Value.slice P s.top.f2.toNat kT).ownBlock/\some k≠eG.ownBlock) _ _:=Kd.bQ (Kd.bU (Kd.dr Uz.o (p:=⟨g,11,none⟩) (fun k hk=>hk.1) (.slice P s.top.f2.toNat kT)) 1) (fun k hk=>⟨hk.1,by cases P<;>exact hk.2.1,hk.2.2⟩);have q2:bl (W3.setCell ⟨g,11,none⟩ (.slice P s.top.f2.toNat kT)).drew base (fun k=>k≠g/\some k≠(Value.slice P s.top.f2.toNat kT).ownBlock/\some k≠eG.ownBlock) _ _:=Kd.bQ (Kd.bU (Kd.dr UA.o (p:=⟨g,11,none⟩) (fun k hk=>hk.1) (.slice P s.top.f2.toNat kT)) 1) (fun k hk=>⟨hk.1,by cases P<;>exact hk.2.1,hk.2.2⟩);clear c11 f11 y0;generalize (W3.setCell ⟨g,11,none⟩ (.slice P s.top.f2.toNat kT)).drew=W4 at h4 z0 z1 m4 q1 q2⊢;have y0:=(aa z1 0).trans rfl;have y1:=(aa z1 1).trans rfl;have y2:=(aa z1 2).trans rfl;have y3:=(aa z1 3).trans rfl;have y4:=(aa z1 4).trans rfl;have x0:=(aa z0 0).trans rfl;have x1:=(aa z0 1).trans rfl;have x2:=(aa z0 2).trans rfl;have x3:=(aa z0 3).trans rfl;have x4:=(aa z0 4).trans rfl;have f0:=ah z0 0;have f1:=ah z0 1;have f2:=ah z0 2;have f3:=ah z0 3;have f4:=ah z0 4;have C9:=hd h4;have Rs:=hd m4;have Rt:=hd z0;have UC:=hd q1;have UD:=hd q2;clear h4 z0 z1 m4 q1 q2 hmin
  go_wp2_with fail
  refine bodyPost_ret (v:= .agg #[.int .i64 s.top.f0,.slice A1 s.top.f1.f0.length c1,.slice A2 s.top.f1.f1.length c2,.int .i64 s.top.f2,.bool s.top.f3]) (by have hb:=bC (bC (bC (bC (bC Rt.o 0 (.int .i64 s.top.f0)) 1 (.slice A1 s.top.f1.f0.length c1)) 2 (.slice A2 s.top.f1.f1.length c2)) 3 (.int .i64 s.top.f2)) 4 (.bool s.top.f3);have e0:=(aa hb 0).trans rfl;have e1:=(aa hb 1).trans rfl;have e2:=(aa hb 2).trans rfl;have e3:=(aa hb 3).trans rfl;have e4:=(aa hb 4).trans rfl;generalize ((((W4.setCell ⟨w.heap.size,0,none⟩ (.int .i64 s.top.f0)).setCell ⟨w.heap.size,1,none⟩ (.slice A1 s.top.f1.f0.length c1)).setCell ⟨w.heap.size,2,none⟩ (.slice A2 s.top.f1.f1.length c2)).setCell ⟨w.heap.size,3,none⟩ (.int .i64 s.top.f2)).setCell ⟨w.heap.size,4,none⟩ (.bool s.top.f3)=W5 at e0 e1 e2 e3 e4⊢;clear hb;simp[results,results147,go_sem,e0,e1,e2,e3,e4]<;>rfl) rfl ?_;rw[<-wJ];refine⟨.slice A1 s.top.f1.f0.length c1,.slice A2 s.top.f1.f1.length c2,rfl,_,eG,((((Rs.o.iq (aU _) _).iq (aU _) _).iq (aU _) _).iq (aU _) _).iq (aU _) _,?_,jH UC.o (fun k hk=>mP W4 w.heap.size k hk _ _ _ _ _) Rt.o (by decide),jH UD.o (fun k hk=>mP W4 w.heap.size k hk _ _ _ _ _) Rt.o (by decide)⟩;rw[NR.o,<-cE.o,<-HGT.o];rw[Bool.true_or];exact qX C9.o (by simp only[World.setCell];simp) (fun k hk _=>mP W4 w.heap.size k hk _ _ _ _ _) ⟨_,_,Rt.o,by decide,by decide⟩ HXF.o
 |false=>
  go_enter func147,ntmps147
  go_wp2_with (first|((go_at_call 144);(with_reducible refine(nD.o _).mono ?_);rintro e w'⟨rfl,nt,rfl⟩)|((go_at_call 145);(with_reducible refine(XT.o _).mono ?_);rintro e W⟨rfl,dI,eG,m,hS,x0,x1,xF,q1,q2⟩;have c11:=(aa hS.1 11).trans (kY hS.2.1 _ _ _);have c13:=(aa hS.1 13).trans (dy hS.2.1 _ _ _);rw[<-cE.o]at c13;have f11:=ah hS.1 11;have f13:=ah hS.1 13;have y0:=(aa x1 3).trans rfl;obtain⟨P,kT,rfl⟩:=Kd.ai hS.2.2.2.2.1;have HM:=hd m;have iM:=hd hS;have Hi:=hd x0;have fP:=hd x1;have HXF:=hd xF;have Qd:=hd q1;have qf:=hd q2;clear m hS x0 x1 xF q1 q2))
  refine st 18 (fun w'=>w'.cell? ⟨g,13,none⟩=some (.bool false)/\w'.cell? ⟨g,11,none⟩=some (.slice P t.T.length kT)/\w'.cell? ⟨w.heap.size+1,3,none⟩=some (.int .i64 s.top.f2)) [17] ⟨c13,c11,y0⟩ (fun ag=>?_);refine cZ 0 13 1 14 2 15 ?_;refine pu 3 16 ?_;refine tk 4 17 ag ?_;refine cZ 5 18 6 19 7 20 ?_;refine pu 8 21 ?_;refine tk 9 22 ag ?_;refine pu2 10 23 11 24 ?_;refine tk 12 25 ag ?_;refine cZ 13 26 14 27 15 28 ?_;refine pu 16 29 ?_;refine la 17 ?_;refine dn ?_
  go_wp2_with fail
  have h3:aJ (W.setCell ⟨g,13,none⟩ (.bool gt)).drew base g D fx ⟨t.T,t.F,gt⟩ (.slice P t.T.length kT) eG:=bT (eC iM.o _) 1;have z0:=dM (bR Hi.o (p:=⟨g,13,none⟩) (by show w.heap.size≠g;omega) (.bool gt));have z1:=dM (bR fP.o (p:=⟨g,13,none⟩) (by show w.heap.size+1≠g;omega) (.bool gt));have m3:Mv g w (W.setCell ⟨g,13,none⟩ (.bool gt)).drew vT vF _ eG:=(HM.o.set 13 (.bool gt)).drewN 1;have q1:bl (W.setCell ⟨g,13,none⟩ (.bool gt)).drew base _ _ _:=Kd.bU (Kd.dr Qd.o (p:=⟨g,13,none⟩) (fun k hk=>hk.1) (.bool gt)) 1;have q2:bl (W.setCell ⟨g,13,none⟩ (.bool gt)).drew base _ _ _:=Kd.bU (Kd.dr qf.o (p:=⟨g,13,none⟩) (fun k hk=>hk.1) (.bool gt)) 1;clear c11 c13 f11 f13 y0;generalize (W.setCell ⟨g,13,none⟩ (.bool gt)).drew=W3 at h3 z0 z1 m3 q1 q2⊢;have c11:=(aa h3.1 11).trans (kY h3.2.1 _ _ _);have f11:=ah h3.1 11;have y0:=(aa z1 3).trans rfl;have hcap:s.top.f2<=(kT:Int):=by have:=(Kd.bA h3.2.2.2.2.1).2.1;omega
  have hmin:(if s.top.f2<(t.T.length:Int)then s.top.f2 else(t.T.length:Int))=s.top.f2:=by split<;>omega
  have uC:=hd (EX (h:=s.top.f2.toNat) h3 (by show s.top.f2.toNat<=t.T.length;omega));have Uz:=hd q1;have UA:=hd q2;clear q1 q2;have qY:=hd h3;have UB:=hd z0;have HZ1:=hd z1;have NS:=hd m3;clear h3 z0 z1 m3;refine st 17 (fun w'=>w'.cell? ⟨g,11,none⟩=some (.slice P t.T.length kT)/\w'.cell? ⟨w.heap.size+1,3,none⟩=some (.int .i64 s.top.f2)) [16] ⟨c11,y0⟩ (fun ag=>?_);refine cZ 0 30 1 31 2 32 ?_;refine pu 3 33 ?_;refine tk 4 34 ag ?_;refine cZ 5 35 6 36 7 37 ?_;refine tk 8 38 ag ?_;refine pu2 9 39 10 40 ?_;refine tk 11 41 ag ?_;refine cZ 12 42 13 43 14 44 ?_;refine pu 15 45 ?_;refine la 16 ?_;refine dn ?_;have h4:=uC.o;have z0:=dM (bR UB.o (p:=⟨g,11,none⟩) (by show w.heap.size≠g;omega) (.slice P s.top.f2.toNat kT));have z1:=dM (bR HZ1.o (p:=⟨g,11,none⟩) (by show w.heap.size+1≠g;omega) (.slice P s.top.f2.toNat kT));have m4:Mv g w (W3.setCell ⟨g,11,none⟩ (.slice P s.top.f2.toNat kT)).drew vT vF (.slice P s.top.f2.toNat kT) eG:=((NS.o.set 11 (.slice P s.top.f2.toNat kT)).drewN 1).CQ (by cases P<;>rfl);have q1:bl (W3.setCell ⟨g,11,none⟩ (.slice P s.top.f2.toNat kT)).drew base (fun k=>k≠g/\some k≠(Value.slice P s.top.f2.toNat kT).ownBlock/\some k≠eG.ownBlock) _ _:=Kd.bQ (Kd.bU (Kd.dr Uz.o (p:=⟨g,11,none⟩) (fun k hk=>hk.1) (.slice P s.top.f2.toNat kT)) 1) (fun k hk=>⟨hk.1,by cases P<;>exact hk.2.1,hk.2.2⟩);have q2:bl (W3.setCell ⟨g,11,none⟩ (.slice P s.top.f2.toNat kT)).drew base (fun k=>k≠g/\some k≠(Value.slice P s.top.f2.toNat kT).ownBlock/\some k≠eG.ownBlock) _ _:=Kd.bQ (Kd.bU (Kd.dr UA.o (p:=⟨g,11,none⟩) (fun k hk=>hk.1) (.slice P s.top.f2.toNat kT)) 1) (fun k hk=>⟨hk.1,by cases P<;>exact hk.2.1,hk.2.2⟩);clear c11 f11 y0;generalize (W3.setCell ⟨g,11,none⟩ (.slice P s.top.f2.toNat kT)).drew=W4 at h4 z0 z1 m4 q1 q2⊢;have y0:=(aa z1 0).trans rfl;have y1:=(aa z1 1).trans rfl;have y2:=(aa z1 2).trans rfl;have y3:=(aa z1 3).trans rfl;have y4:=(aa z1 4).trans rfl;have x0:=(aa z0 0).trans rfl;have x1:=(aa z0 1).trans rfl;have x2:=(aa z0 2).trans rfl;have x3:=(aa z0 3).trans rfl;have x4:=(aa z0 4).trans rfl;have f0:=ah z0 0;have f1:=ah z0 1;have f2:=ah z0 2;have f3:=ah z0 3;have f4:=ah z0 4;have C9:=hd h4;have Rs:=hd m4;have Rt:=hd z0;have UC:=hd q1;have UD:=hd q2;clear h4 z0 z1 m4 q1 q2 hmin
  go_wp2_with fail
  refine bodyPost_ret (v:= .agg #[.int .i64 s.top.f0,.slice A1 s.top.f1.f0.length c1,.slice A2 s.top.f1.f1.length c2,.int .i64 s.top.f2,.bool s.top.f3]) (by have hb:=bC (bC (bC (bC (bC Rt.o 0 (.int .i64 s.top.f0)) 1 (.slice A1 s.top.f1.f0.length c1)) 2 (.slice A2 s.top.f1.f1.length c2)) 3 (.int .i64 s.top.f2)) 4 (.bool s.top.f3);have e0:=(aa hb 0).trans rfl;have e1:=(aa hb 1).trans rfl;have e2:=(aa hb 2).trans rfl;have e3:=(aa hb 3).trans rfl;have e4:=(aa hb 4).trans rfl;generalize ((((W4.setCell ⟨w.heap.size,0,none⟩ (.int .i64 s.top.f0)).setCell ⟨w.heap.size,1,none⟩ (.slice A1 s.top.f1.f0.length c1)).setCell ⟨w.heap.size,2,none⟩ (.slice A2 s.top.f1.f1.length c2)).setCell ⟨w.heap.size,3,none⟩ (.int .i64 s.top.f2)).setCell ⟨w.heap.size,4,none⟩ (.bool s.top.f3)=W5 at e0 e1 e2 e3 e4⊢;clear hb;simp[results,results147,go_sem,e0,e1,e2,e3,e4]<;>rfl) rfl ?_;rw[<-wJ];refine⟨.slice A1 s.top.f1.f0.length c1,.slice A2 s.top.f1.f1.length c2,rfl,_,eG,((((Rs.o.iq (aU _) _).iq (aU _) _).iq (aU _) _).iq (aU _) _).iq (aU _) _,?_,jH UC.o (fun k hk=>mP W4 w.heap.size k hk _ _ _ _ _) Rt.o (by decide),jH UD.o (fun k hk=>mP W4 w.heap.size k hk _ _ _ _ _) Rt.o (by decide)⟩;rw[NR.o,<-cE.o,<-HGT.o];rw[Bool.false_or];exact qX C9.o (by simp only[World.setCell];simp) (fun k hk _=>mP W4 w.heap.size k hk _ _ _ _ _) ⟨_,_,Rt.o,by decide,by decide⟩ HXF.o
theorem zf{w:World}{base g gf n k j:Nat}{D:Nat->Prop}{fx:List Value}{s:Sp.St}{vT:Value}(hS:aJ w base g D fx s vT (.slice (some ⟨gf,0,none⟩) n k))(hh:j<=s.F.length):aJ (w.setCell ⟨g,12,none⟩ (.slice (some ⟨gf,0,none⟩) j k)).drew base g D fx ⟨s.T,s.F.take j,s.bad⟩ vT (.slice (some ⟨gf,0,none⟩) j k):=by
 obtain⟨hg0,iR,hb,sR,hT,hF,o9,hD⟩:=hS;have hF':iG w base (fun k=>k≠g/\some k≠vT.ownBlock) (.slice (some ⟨gf,0,none⟩) j k) (s.F.take j):=Kd.nR hF hh
 have hh2:aJ (w.setCell ⟨g,12,none⟩ (.slice (some ⟨gf,0,none⟩) j k)) base g D fx ⟨s.T,s.F.take j,s.bad⟩ vT (.slice (some ⟨gf,0,none⟩) j k):=by
  refine⟨?_,iR,hb,sR,Kd.dr (Kd.bQ hT (fun k hk=>hk)) (fun k hk=>hk.1) _,Kd.dr hF' (fun k hk=>hk.1) _,fun k hk=>o9 k hk,fun k hk=>?_⟩
  ·have:=bC hg0 12 (.slice (some ⟨gf,0,none⟩) j k)
   rwa[BF iR]at this
  ·have:=hD k hk
   simp only[World.setCell];simpa using this
 exact bT hh2 1
theorem Mv.Hj{g:Nat}{a b:World}{t f t1 f1 f2:Value}(h:Mv g a b t f t1 f1)(e:f2.ownBlock=f1.ownBlock):Mv g a b t f t1 f2:=⟨h.os,h.tape,h.output,h.size,h.block,h.BG,fun k hk=>h.Ax k (e▸hk)⟩
theorem Hl(w:World)(base g:Nat)(D:Nat->Prop)(fx:List Value)(s:Sp.St)(vT vF:Value)(h:aJ w base g D fx s vT vF)(hI:Sp.cq s)(hl:s.leave.T.length+s.top.f1.f1.length<=1000000):Calls prog 93 #[.pointer (some ⟨g,0,none⟩)] w (bN g base D fx w vT vF (.tuple #[]) s.end_):=by
 have NR:=hd (uB w base g D fx s vT vF h hI (by omega));have HL:=hd hl;have UE:=hd hI.1;obtain⟨j,hj⟩: ∃j,s.F.length=j+1:=⟨s.F.length-1,by have:=hI.1;omega⟩;have HJ:=hd hj;have nW:=hd (show s.leave.F.length=s.F.length by unfold Sp.St.leave;rw[uA]);have hjl:(j:Int)<=100000:=by have:=hI.2.1;omega
 clear h hI hl hj;by_cases hm:0<j
 ·have hj0:(0:Int)<=(j:Int):=by omega
  have hj1:(1:Int)<(j:Int)+1:=by omega
  have hj2:decide ((1:Int)<(j:Int)+1)=true:=iz hj1;have hj3:(0:Int)<(j:Int):=by omega
  have hj4:decide ((0:Int)<(j:Int))=true:=iz hj3;by_cases h4:s.top.f0=4
  ·have Ru:=hd h4;have g4:(s.top.f0==4)=true:=by simpa using h4
   clear h4;by_cases he:s.top.f1.f0=s.top.f1.f1
   ·have UF:=hd he;have ge:decide (s.top.f1.f0=s.top.f1.f1)=true:=iz he
    clear he
    go_enter func93,ntmps93
    go_wp2_with (first|((go_at_call 147);(with_reducible refine NR.o.mono ?_);rintro e W⟨v1,v2,rfl,dI,eG,m,hS,q1,q2⟩;obtain⟨A1,c1,rfl⟩:=Kd.ai q1;obtain⟨A2,c2,rfl⟩:=Kd.ai q2;have EZ:=hd (Kd.bA q1).2.2;have KE:=hd (Kd.bA q2).2.2;obtain⟨gf,cap,rfl,sS,xd,xe⟩:=fC hS (by rw[nW.o];exact UE.o);rw[nW.o,HJ.o]at hS q1 q2;have c12:=(aa hS.1 12).trans (dN hS.2.1 _ _ _);have f12:=ah hS.1 12;have f13:=ah hS.1 13;have c13:=(aa hS.1 13).trans (dy hS.2.1 _ _ _);have nC:=aj hS.1;have HM:=hd m;have HS:=hd hS;have qf:=hd q2;clear m hS q1 q2)|((go_at_call 148);(with_reducible refine(iE A1 A2 c1 c2 _ _ _ (Kd.aS EZ.o _) (Kd.aS KE.o _)).mono ?_);rintro e w'⟨rfl,n,rfl⟩))
    have h3:aJ ((W.alloc (kM s.top A1 c1 A2 c2)).drewN n) base g D fx ⟨s.leave.T,s.leave.F,s.leave.bad⟩ dI (.slice (some ⟨gf,0,none⟩) (j+1) cap):=bT (aI HS.o (kM s.top A1 c1 A2 c2)) n;have m3:=((HM.o.alloc (kM s.top A1 c1 A2 c2)).drewN n);have z3:=(ez (dh W (kM s.top A1 c1 A2 c2)) n);have q3:bl ((W.alloc (kM s.top A1 c1 A2 c2)).drewN n) base _ _ _:=Kd.bU (Kd.aZ qf.o (kM s.top A1 c1 A2 c2)) n;clear c12 c13 f12 f13;generalize ((W.alloc (kM s.top A1 c1 A2 c2)).drewN n)=W3 at h3 m3 z3 q3⊢;have y2:=(aa z3 2).trans rfl;have c12:=(aa h3.1 12).trans (dN h3.2.1 _ _ _);have f12:=ah h3.1 12;have XU:=aj z3;have hcap:(j:Int)<=(cap:Int):=by have:=(Kd.bA h3.2.2.2.2.2.1).2.1;omega
    have h4:=zf (j:=j) h3 (by show j<=s.leave.F.length;have:=nW.o;have:=HJ.o;omega);have m4:Mv g w (W3.setCell ⟨g,12,none⟩ (.slice (some ⟨gf,0,none⟩) j cap)).drew vT vF dI (.slice (some ⟨gf,0,none⟩) j cap):=((m3.set 12 (.slice (some ⟨gf,0,none⟩) j cap)).drewN 1).Hj rfl;have z4:=dM (bR z3 (p:=⟨g,12,none⟩) (by show W.heap.size≠g;omega) (.slice (some ⟨gf,0,none⟩) j cap));have q4:bl (W3.setCell ⟨g,12,none⟩ (.slice (some ⟨gf,0,none⟩) j cap)).drew base (fun k=>k≠g/\some k≠dI.ownBlock/\some k≠(Value.slice (some ⟨gf,0,none⟩) j cap).ownBlock) _ _:=Kd.bU (Kd.dr q3 (p:=⟨g,12,none⟩) (fun k hk=>hk.1) (.slice (some ⟨gf,0,none⟩) j cap)) 1;have H4:=hd h4;have M4:=hd m4;have Z4:=hd z4;have Q4:=hd q4;clear h3 m3 z3 q3 y2 h4 m4 z4 q4;have hw0:wrap64 (j:Int)=(j:Int):=Tx.xR (by omega) (by omega);have hwi:IntKind.i64.wrap (j:Int)=(j:Int):=(Aw _).trans hw0;refine st 15 (fun w'=>w'.cell? ⟨g,12,none⟩=some (.slice (some ⟨gf,0,none⟩) (j+1) cap)) [14] c12 (fun ag=>?_);refine cZ 0 27 1 28 2 29 ?_;refine pu 3 30 ?_;refine tk 4 31 ag ?_;refine cZ 5 32 6 33 7 34 ?_;refine tk 8 35 ag ?_;refine cZ 9 36 10 37 11 38 ?_;refine pu2 12 39 13 40 ?_;refine la 14 ?_;refine dn ?_;clear hw0 hwi;have h4:=H4.o;have m4:=M4.o;have z4:=Z4.o;have q4:=Q4.o;clear c12 f12;generalize (W3.setCell ⟨g,12,none⟩ (.slice (some ⟨gf,0,none⟩) j cap)).drew=W4 at h4 m4 z4 q4⊢;have y2:=(aa z4 2).trans rfl;have HP:=hd (dP W4 base g D fx _ dI _ _ h4 s.top.f1.f1 (fO h4 q4) HL.o);have M4:=hd m4;clear h4 m4 z4 q4
    go_wp2_with (first|((go_at_call 146);(with_reducible refine HP.o.mono ?_);rintro e w'⟨rfl,qu,sY,m2,h2⟩))
    go_end0
    refine⟨rfl,qu,sY,M4.o.trans m2,?_⟩
    have e:s.end_=Sp.St.push ⟨s.leave.T,s.leave.F.take j,s.leave.bad⟩ s.top.f1.f1:=by
     have hf:=nW.o;have hj:=HJ.o;have h4:=Ru.o;have he:=UF.o;unfold Sp.St.end_ Sp.St.err Sp.St.less;have hm2:(1<s.leave.F.length)↔True:=⟨fun _=>trivial,fun _=>by omega⟩;simp[h4,he,hm,hm2,hf,hj]
    rw[e];exact h2
   ·have UF:=hd he;have ge:decide (s.top.f1.f0=s.top.f1.f1)=false:=jP he
    clear he
    go_enter func93,ntmps93
    go_wp2_with (first|((go_at_call 147);(with_reducible refine NR.o.mono ?_);rintro e W⟨v1,v2,rfl,dI,eG,m,hS,q1,q2⟩;obtain⟨A1,c1,rfl⟩:=Kd.ai q1;obtain⟨A2,c2,rfl⟩:=Kd.ai q2;have EZ:=hd (Kd.bA q1).2.2;have KE:=hd (Kd.bA q2).2.2;obtain⟨gf,cap,rfl,sS,xd,xe⟩:=fC hS (by rw[nW.o];exact UE.o);rw[nW.o,HJ.o]at hS q1 q2;have c12:=(aa hS.1 12).trans (dN hS.2.1 _ _ _);have f12:=ah hS.1 12;have f13:=ah hS.1 13;have c13:=(aa hS.1 13).trans (dy hS.2.1 _ _ _);have nC:=aj hS.1;have HM:=hd m;have HS:=hd hS;have qf:=hd q2;clear m hS q1 q2)|((go_at_call 148);(with_reducible refine(iE A1 A2 c1 c2 _ _ _ (Kd.aS EZ.o _) (Kd.aS KE.o _)).mono ?_);rintro e w'⟨rfl,n,rfl⟩))
    have h3:aJ (((W.alloc (kM s.top A1 c1 A2 c2)).drewN n).setCell ⟨g,13,none⟩ (.bool true)) base g D fx ⟨s.leave.T,s.leave.F,true⟩ dI (.slice (some ⟨gf,0,none⟩) (j+1) cap):=eC (bT (aI HS.o (kM s.top A1 c1 A2 c2)) n) true;have m3:=(((HM.o.alloc (kM s.top A1 c1 A2 c2)).drewN n).set 13 (.bool true));have z3:=(bR (ez (dh W (kM s.top A1 c1 A2 c2)) n) (p:=⟨g,13,none⟩) (by show W.heap.size≠g;omega) (.bool true));have q3:bl (((W.alloc (kM s.top A1 c1 A2 c2)).drewN n).setCell ⟨g,13,none⟩ (.bool true)) base _ _ _:=Kd.dr (Kd.bU (Kd.aZ qf.o (kM s.top A1 c1 A2 c2)) n) (p:=⟨g,13,none⟩) (fun k hk=>hk.1) (.bool true);clear c12 c13 f12 f13;generalize (((W.alloc (kM s.top A1 c1 A2 c2)).drewN n).setCell ⟨g,13,none⟩ (.bool true))=W3 at h3 m3 z3 q3⊢;have y2:=(aa z3 2).trans rfl;have c12:=(aa h3.1 12).trans (dN h3.2.1 _ _ _);have f12:=ah h3.1 12;have XU:=aj z3;have hcap:(j:Int)<=(cap:Int):=by have:=(Kd.bA h3.2.2.2.2.2.1).2.1;omega
    have h4:=zf (j:=j) h3 (by show j<=s.leave.F.length;have:=nW.o;have:=HJ.o;omega);have m4:Mv g w (W3.setCell ⟨g,12,none⟩ (.slice (some ⟨gf,0,none⟩) j cap)).drew vT vF dI (.slice (some ⟨gf,0,none⟩) j cap):=((m3.set 12 (.slice (some ⟨gf,0,none⟩) j cap)).drewN 1).Hj rfl;have z4:=dM (bR z3 (p:=⟨g,12,none⟩) (by show W.heap.size≠g;omega) (.slice (some ⟨gf,0,none⟩) j cap));have q4:bl (W3.setCell ⟨g,12,none⟩ (.slice (some ⟨gf,0,none⟩) j cap)).drew base (fun k=>k≠g/\some k≠dI.ownBlock/\some k≠(Value.slice (some ⟨gf,0,none⟩) j cap).ownBlock) _ _:=Kd.bU (Kd.dr q3 (p:=⟨g,12,none⟩) (fun k hk=>hk.1) (.slice (some ⟨gf,0,none⟩) j cap)) 1;have H4:=hd h4;have M4:=hd m4;have Z4:=hd z4;have Q4:=hd q4;clear h3 m3 z3 q3 y2 h4 m4 z4 q4;have hw0:wrap64 (j:Int)=(j:Int):=Tx.xR (by omega) (by omega);have hwi:IntKind.i64.wrap (j:Int)=(j:Int):=(Aw _).trans hw0;refine st 15 (fun w'=>w'.cell? ⟨g,12,none⟩=some (.slice (some ⟨gf,0,none⟩) (j+1) cap)) [14] c12 (fun ag=>?_);refine cZ 0 27 1 28 2 29 ?_;refine pu 3 30 ?_;refine tk 4 31 ag ?_;refine cZ 5 32 6 33 7 34 ?_;refine tk 8 35 ag ?_;refine cZ 9 36 10 37 11 38 ?_;refine pu2 12 39 13 40 ?_;refine la 14 ?_;refine dn ?_;clear hw0 hwi;have h4:=H4.o;have m4:=M4.o;have z4:=Z4.o;have q4:=Q4.o;clear c12 f12;generalize (W3.setCell ⟨g,12,none⟩ (.slice (some ⟨gf,0,none⟩) j cap)).drew=W4 at h4 m4 z4 q4⊢;have y2:=(aa z4 2).trans rfl;have HP:=hd (dP W4 base g D fx _ dI _ _ h4 s.top.f1.f1 (fO h4 q4) HL.o);have M4:=hd m4;clear h4 m4 z4 q4
    go_wp2_with (first|((go_at_call 146);(with_reducible refine HP.o.mono ?_);rintro e w'⟨rfl,qu,sY,m2,h2⟩))
    go_end0
    refine⟨rfl,qu,sY,M4.o.trans m2,?_⟩
    have e:s.end_=Sp.St.push ⟨s.leave.T,s.leave.F.take j,true⟩ s.top.f1.f1:=by
     have hf:=nW.o;have hj:=HJ.o;have h4:=Ru.o;have he:=UF.o;unfold Sp.St.end_ Sp.St.err Sp.St.less;have hm2:(1<s.leave.F.length)↔True:=⟨fun _=>trivial,fun _=>by omega⟩;simp[h4,he,hm,hm2,hf,hj]
    rw[e];exact h2
  ·have Ru:=hd h4;have g4:(s.top.f0==4)=false:=by simpa using h4
   clear h4
   go_enter func93,ntmps93
   go_wp2_with (first|((go_at_call 147);(with_reducible refine NR.o.mono ?_);rintro e W⟨v1,v2,rfl,dI,eG,m,hS,q1,q2⟩;obtain⟨A1,c1,rfl⟩:=Kd.ai q1;obtain⟨A2,c2,rfl⟩:=Kd.ai q2;have EZ:=hd (Kd.bA q1).2.2;have KE:=hd (Kd.bA q2).2.2;obtain⟨gf,cap,rfl,sS,xd,xe⟩:=fC hS (by rw[nW.o];exact UE.o);rw[nW.o,HJ.o]at hS q1 q2;have c12:=(aa hS.1 12).trans (dN hS.2.1 _ _ _);have f12:=ah hS.1 12;have f13:=ah hS.1 13;have c13:=(aa hS.1 13).trans (dy hS.2.1 _ _ _);have nC:=aj hS.1;have HM:=hd m;have HS:=hd hS;have qf:=hd q2;clear m hS q1 q2)|((go_at_call 148);(with_reducible refine(iE A1 A2 c1 c2 _ _ _ (Kd.aS EZ.o _) (Kd.aS KE.o _)).mono ?_);rintro e w'⟨rfl,n,rfl⟩))
   have h3:aJ (W.alloc (kM s.top A1 c1 A2 c2)) base g D fx ⟨s.leave.T,s.leave.F,s.leave.bad⟩ dI (.slice (some ⟨gf,0,none⟩) (j+1) cap):=aI HS.o (kM s.top A1 c1 A2 c2);have m3:=(HM.o.alloc (kM s.top A1 c1 A2 c2));have z3:=(dh W (kM s.top A1 c1 A2 c2));have q3:bl (W.alloc (kM s.top A1 c1 A2 c2)) base _ _ _:=Kd.aZ qf.o (kM s.top A1 c1 A2 c2);clear c12 c13 f12 f13;generalize (W.alloc (kM s.top A1 c1 A2 c2))=W3 at h3 m3 z3 q3⊢;have y2:=(aa z3 2).trans rfl;have c12:=(aa h3.1 12).trans (dN h3.2.1 _ _ _);have f12:=ah h3.1 12;have XU:=aj z3;have hcap:(j:Int)<=(cap:Int):=by have:=(Kd.bA h3.2.2.2.2.2.1).2.1;omega
   have h4:=zf (j:=j) h3 (by show j<=s.leave.F.length;have:=nW.o;have:=HJ.o;omega);have m4:Mv g w (W3.setCell ⟨g,12,none⟩ (.slice (some ⟨gf,0,none⟩) j cap)).drew vT vF dI (.slice (some ⟨gf,0,none⟩) j cap):=((m3.set 12 (.slice (some ⟨gf,0,none⟩) j cap)).drewN 1).Hj rfl;have z4:=dM (bR z3 (p:=⟨g,12,none⟩) (by show W.heap.size≠g;omega) (.slice (some ⟨gf,0,none⟩) j cap));have q4:bl (W3.setCell ⟨g,12,none⟩ (.slice (some ⟨gf,0,none⟩) j cap)).drew base (fun k=>k≠g/\some k≠dI.ownBlock/\some k≠(Value.slice (some ⟨gf,0,none⟩) j cap).ownBlock) _ _:=Kd.bU (Kd.dr q3 (p:=⟨g,12,none⟩) (fun k hk=>hk.1) (.slice (some ⟨gf,0,none⟩) j cap)) 1;have H4:=hd h4;have M4:=hd m4;have Z4:=hd z4;have Q4:=hd q4;clear h3 m3 z3 q3 y2 h4 m4 z4 q4;have hw0:wrap64 (j:Int)=(j:Int):=Tx.xR (by omega) (by omega);have hwi:IntKind.i64.wrap (j:Int)=(j:Int):=(Aw _).trans hw0;refine st 15 (fun w'=>w'.cell? ⟨g,12,none⟩=some (.slice (some ⟨gf,0,none⟩) (j+1) cap)) [14] c12 (fun ag=>?_);refine cZ 0 27 1 28 2 29 ?_;refine pu 3 30 ?_;refine tk 4 31 ag ?_;refine cZ 5 32 6 33 7 34 ?_;refine tk 8 35 ag ?_;refine cZ 9 36 10 37 11 38 ?_;refine pu2 12 39 13 40 ?_;refine la 14 ?_;refine dn ?_;clear hw0 hwi;have h4:=H4.o;have m4:=M4.o;have z4:=Z4.o;have q4:=Q4.o;clear c12 f12;generalize (W3.setCell ⟨g,12,none⟩ (.slice (some ⟨gf,0,none⟩) j cap)).drew=W4 at h4 m4 z4 q4⊢;have y2:=(aa z4 2).trans rfl;have HP:=hd (dP W4 base g D fx _ dI _ _ h4 s.top.f1.f1 (fO h4 q4) HL.o);have M4:=hd m4;clear h4 m4 z4 q4
   go_wp2_with (first|((go_at_call 146);(with_reducible refine HP.o.mono ?_);rintro e w'⟨rfl,qu,sY,m2,h2⟩))
   go_end0
   refine⟨rfl,qu,sY,M4.o.trans m2,?_⟩
   have e:s.end_=Sp.St.push ⟨s.leave.T,s.leave.F.take j,s.leave.bad⟩ s.top.f1.f1:=by
    have hf:=nW.o;have hj:=HJ.o;have h4:=Ru.o;unfold Sp.St.end_ Sp.St.err Sp.St.less;have hm2:(1<s.leave.F.length)↔True:=⟨fun _=>trivial,fun _=>by omega⟩;simp[h4,hm,hm2,hf,hj]
   rw[e];exact h2
 ·obtain rfl:j=0:=by omega
  clear hm hjl;by_cases h4:s.top.f0=4
  ·have Ru:=hd h4;have g4:(s.top.f0==4)=true:=by simpa using h4
   clear h4;by_cases he:s.top.f1.f0=s.top.f1.f1
   ·have UF:=hd he;have ge:decide (s.top.f1.f0=s.top.f1.f1)=true:=iz he
    clear he
    go_enter func93,ntmps93
    go_wp2_with (first|((go_at_call 147);(with_reducible refine NR.o.mono ?_);rintro e W⟨v1,v2,rfl,dI,eG,m,hS,q1,q2⟩;obtain⟨A1,c1,rfl⟩:=Kd.ai q1;obtain⟨A2,c2,rfl⟩:=Kd.ai q2;have EZ:=hd (Kd.bA q1).2.2;have KE:=hd (Kd.bA q2).2.2;obtain⟨gf,cap,rfl,sS,xd,xe⟩:=fC hS (by rw[nW.o];exact UE.o);rw[nW.o,HJ.o]at hS q1 q2;have c12:=(aa hS.1 12).trans (dN hS.2.1 _ _ _);have f12:=ah hS.1 12;have f13:=ah hS.1 13;have c13:=(aa hS.1 13).trans (dy hS.2.1 _ _ _);have nC:=aj hS.1;have HM:=hd m;have HS:=hd hS;have qf:=hd q2;clear m hS q1 q2)|((go_at_call 148);(with_reducible refine(iE A1 A2 c1 c2 _ _ _ (Kd.aS EZ.o _) (Kd.aS KE.o _)).mono ?_);rintro e w'⟨rfl,n,rfl⟩))
    have h3:aJ ((W.alloc (kM s.top A1 c1 A2 c2)).drewN n) base g D fx ⟨s.leave.T,s.leave.F,s.leave.bad⟩ dI (.slice (some ⟨gf,0,none⟩) (0+1) cap):=bT (aI HS.o (kM s.top A1 c1 A2 c2)) n;have m3:=((HM.o.alloc (kM s.top A1 c1 A2 c2)).drewN n);have z3:=(ez (dh W (kM s.top A1 c1 A2 c2)) n);have q3:bl ((W.alloc (kM s.top A1 c1 A2 c2)).drewN n) base _ _ _:=Kd.bU (Kd.aZ qf.o (kM s.top A1 c1 A2 c2)) n;clear c12 c13 f12 f13;generalize ((W.alloc (kM s.top A1 c1 A2 c2)).drewN n)=W3 at h3 m3 z3 q3⊢;have y2:=(aa z3 2).trans rfl;refine(dP W3 base g D fx _ dI _ _ h3 s.top.f1.f1 (fO h3 q3) HL.o).mono ?_;rintro e w'⟨rfl,qu,sY,m2,h2⟩
    go_wp2_with fail
    go_end0
    rw[show s.leave.F.length=0+1 from nW.o.trans HJ.o]at m3;refine⟨rfl,qu,sY,m3.trans m2,?_⟩
    have e:s.end_=Sp.St.push ⟨s.leave.T,s.leave.F,s.leave.bad⟩ s.top.f1.f1:=by
     have hf:=nW.o;have hj:=HJ.o;have h4:=Ru.o;have he:=UF.o;unfold Sp.St.end_ Sp.St.err Sp.St.less;have hm2:(1<s.leave.F.length)↔False:=⟨fun q=>by omega,fun q=>q.elim⟩;simp[h4,he,hm2,hf,hj]
    rw[e];exact h2
   ·have UF:=hd he;have ge:decide (s.top.f1.f0=s.top.f1.f1)=false:=jP he
    clear he
    go_enter func93,ntmps93
    go_wp2_with (first|((go_at_call 147);(with_reducible refine NR.o.mono ?_);rintro e W⟨v1,v2,rfl,dI,eG,m,hS,q1,q2⟩;obtain⟨A1,c1,rfl⟩:=Kd.ai q1;obtain⟨A2,c2,rfl⟩:=Kd.ai q2;have EZ:=hd (Kd.bA q1).2.2;have KE:=hd (Kd.bA q2).2.2;obtain⟨gf,cap,rfl,sS,xd,xe⟩:=fC hS (by rw[nW.o];exact UE.o);rw[nW.o,HJ.o]at hS q1 q2;have c12:=(aa hS.1 12).trans (dN hS.2.1 _ _ _);have f12:=ah hS.1 12;have f13:=ah hS.1 13;have c13:=(aa hS.1 13).trans (dy hS.2.1 _ _ _);have nC:=aj hS.1;have HM:=hd m;have HS:=hd hS;have qf:=hd q2;clear m hS q1 q2)|((go_at_call 148);(with_reducible refine(iE A1 A2 c1 c2 _ _ _ (Kd.aS EZ.o _) (Kd.aS KE.o _)).mono ?_);rintro e w'⟨rfl,n,rfl⟩))
    have h3:aJ (((W.alloc (kM s.top A1 c1 A2 c2)).drewN n).setCell ⟨g,13,none⟩ (.bool true)) base g D fx ⟨s.leave.T,s.leave.F,true⟩ dI (.slice (some ⟨gf,0,none⟩) (0+1) cap):=eC (bT (aI HS.o (kM s.top A1 c1 A2 c2)) n) true;have m3:=(((HM.o.alloc (kM s.top A1 c1 A2 c2)).drewN n).set 13 (.bool true));have z3:=(bR (ez (dh W (kM s.top A1 c1 A2 c2)) n) (p:=⟨g,13,none⟩) (by show W.heap.size≠g;omega) (.bool true));have q3:bl (((W.alloc (kM s.top A1 c1 A2 c2)).drewN n).setCell ⟨g,13,none⟩ (.bool true)) base _ _ _:=Kd.dr (Kd.bU (Kd.aZ qf.o (kM s.top A1 c1 A2 c2)) n) (p:=⟨g,13,none⟩) (fun k hk=>hk.1) (.bool true);clear c12 c13 f12 f13;generalize (((W.alloc (kM s.top A1 c1 A2 c2)).drewN n).setCell ⟨g,13,none⟩ (.bool true))=W3 at h3 m3 z3 q3⊢;have y2:=(aa z3 2).trans rfl;refine(dP W3 base g D fx _ dI _ _ h3 s.top.f1.f1 (fO h3 q3) HL.o).mono ?_;rintro e w'⟨rfl,qu,sY,m2,h2⟩
    go_wp2_with fail
    go_end0
    rw[show s.leave.F.length=0+1 from nW.o.trans HJ.o]at m3;refine⟨rfl,qu,sY,m3.trans m2,?_⟩
    have e:s.end_=Sp.St.push ⟨s.leave.T,s.leave.F,true⟩ s.top.f1.f1:=by
     have hf:=nW.o;have hj:=HJ.o;have h4:=Ru.o;have he:=UF.o;unfold Sp.St.end_ Sp.St.err Sp.St.less;have hm2:(1<s.leave.F.length)↔False:=⟨fun q=>by omega,fun q=>q.elim⟩;simp[h4,he,hm2,hf,hj]
    rw[e];exact h2
  ·have Ru:=hd h4;have g4:(s.top.f0==4)=false:=by simpa using h4
   clear h4
   go_enter func93,ntmps93
   go_wp2_with (first|((go_at_call 147);(with_reducible refine NR.o.mono ?_);rintro e W⟨v1,v2,rfl,dI,eG,m,hS,q1,q2⟩;obtain⟨A1,c1,rfl⟩:=Kd.ai q1;obtain⟨A2,c2,rfl⟩:=Kd.ai q2;have EZ:=hd (Kd.bA q1).2.2;have KE:=hd (Kd.bA q2).2.2;obtain⟨gf,cap,rfl,sS,xd,xe⟩:=fC hS (by rw[nW.o];exact UE.o);rw[nW.o,HJ.o]at hS q1 q2;have c12:=(aa hS.1 12).trans (dN hS.2.1 _ _ _);have f12:=ah hS.1 12;have f13:=ah hS.1 13;have c13:=(aa hS.1 13).trans (dy hS.2.1 _ _ _);have nC:=aj hS.1;have HM:=hd m;have HS:=hd hS;have qf:=hd q2;clear m hS q1 q2)|((go_at_call 148);(with_reducible refine(iE A1 A2 c1 c2 _ _ _ (Kd.aS EZ.o _) (Kd.aS KE.o _)).mono ?_);rintro e w'⟨rfl,n,rfl⟩))
   have h3:aJ (W.alloc (kM s.top A1 c1 A2 c2)) base g D fx ⟨s.leave.T,s.leave.F,s.leave.bad⟩ dI (.slice (some ⟨gf,0,none⟩) (0+1) cap):=aI HS.o (kM s.top A1 c1 A2 c2);have m3:=(HM.o.alloc (kM s.top A1 c1 A2 c2));have z3:=(dh W (kM s.top A1 c1 A2 c2));have q3:bl (W.alloc (kM s.top A1 c1 A2 c2)) base _ _ _:=Kd.aZ qf.o (kM s.top A1 c1 A2 c2);clear c12 c13 f12 f13;generalize (W.alloc (kM s.top A1 c1 A2 c2))=W3 at h3 m3 z3 q3⊢;have y2:=(aa z3 2).trans rfl;refine(dP W3 base g D fx _ dI _ _ h3 s.top.f1.f1 (fO h3 q3) HL.o).mono ?_;rintro e w'⟨rfl,qu,sY,m2,h2⟩
   go_wp2_with fail
   go_end0
   rw[show s.leave.F.length=0+1 from nW.o.trans HJ.o]at m3;refine⟨rfl,qu,sY,m3.trans m2,?_⟩
   have e:s.end_=Sp.St.push ⟨s.leave.T,s.leave.F,s.leave.bad⟩ s.top.f1.f1:=by
    have hf:=nW.o;have hj:=HJ.o;have h4:=Ru.o;unfold Sp.St.end_ Sp.St.err Sp.St.less;have hm2:(1<s.leave.F.length)↔False:=⟨fun q=>by omega,fun q=>q.elim⟩;simp[h4,hm2,hf,hj]
   rw[e];exact h2
end Go.Proofs.YthehihjcpiadgaaGreat
namespace Go.Proofs.YthehihjcpiadgaaGreat
open Go.RowKit Go.Proofs.Wz.PrintWords Go.Shelf
attribute [local go_sem] Oper.semAt_some
theorem zg{w:World}{base g n m t:Nat}{D:Nat->Prop}{fx:List Value}{s:Sp.St}{vT vF:Value}(xs:List Int)(h:aJ w base g D fx s vT vF)(hn:n=w.heap.size)(hm:m=xs.length)(hl:s.T.length+xs.length<=1000000):
 Calls prog 146 #[.pointer (some ⟨g,0,none⟩),.slice (some ⟨n,0,none⟩) m m] (w.alloc (.cells (encs (Value.int .i64) xs).toArray t)) (bN g base D fx w vT vF (.tuple #[]) (s.push xs)):=by
 subst hn hm;have h1:=aj h.1;have h2:=Kd.gY h.2.2.2.2.1;have h3:=Kd.gY h.2.2.2.2.2.1;refine(dP _ base g D fx s vT vF _ (aI h _) xs (Jq (dh w _) (by omega) (fun e=>by have:=h2 _ e.symm;omega) (fun e=>by have:=h3 _ e.symm;omega)) hl).mono (fun e w' ⟨he,dI,eG,m,hS⟩=>⟨he,dI,eG,(Mv.bF (Below.alloc (ay _ _) (aU _) _)).trans m,hS⟩)
def pz(s:Sp.St)(pre:List (Int×Int)):Sp.St:=pre.foldl (fun s x=>s.push [x.2]) s
theorem E0(s:Sp.St)(pre:List (Int×Int))(x:Int×Int):pz s (pre++ [x])=(pz s pre).push [x.2]:=by simp[pz]
theorem BN(pre:List (Int×Int)): ∀s:Sp.St,pz s pre=s.push (pre.map (·.2)):=by
 induction pre with
 |nil=>intro s;simp[pz,Sp.St.push]
 |cons x l ih=>intro s;show pz (s.push [x.2]) l=_;rw[ih];simp[Sp.St.push]
theorem BO(zs:List Int):(Bk.upto (Bk.at_ zs) zs.length).map (·.2)=zs.reverse:=by
 refine List.ext_getElem? (fun j=>?_);by_cases hj:j<zs.length
 ·simp[Bk.upto,Bk.at_,hj,List.getElem?_reverse,List.getElem?_range]
  have h2:zs.length-1-j<zs.length:=by omega
  simp[h2]
 ·rw[List.getElem?_eq_none (by simp[Bk.upto];omega),List.getElem?_eq_none (by simp;omega)]
theorem Hp(s:Sp.St)(zs:List Int):pz s (Bk.upto (Bk.at_ zs) zs.length)=s.back zs:=by
 rw[BN,BO];rfl
def Js(w:World)(base g b:Nat)(D:Nat->Prop)(fx:List Value)(s:Sp.St)(vT vF:Value)(pre:List (Int×Int))(W:World):Prop:=
 ∃dI eG,Mv g w W vT vF dI eG/\aJ W base g D fx (pz s pre) dI eG/\W.cell? ⟨w.heap.size,0,none⟩=some (.pointer (some ⟨g,0,none⟩))/\W.heap[w.heap.size]? =some (.cells #[.pointer (some ⟨g,0,none⟩)] 104 (0,0))/\w.heap.size+2<=W.heap.size/\ ∀k,k=b\/k=w.heap.size\/k=w.heap.size+1->k≠g/\some k≠dI.ownBlock/\some k≠eG.ownBlock
theorem KG{w:World}{base g b B:Nat}{D:Nat->Prop}{fx:List Value}{s:Sp.St}{vT vF:Value}(hB:w.heap.size<=B):OwnFrom B (Js w base g b D fx s vT vF):=by
 rintro pre W W' row⟨dI,eG,m,h,c,hh,hs,hk⟩hg hr;have hne: ∀r,row=some r-> ∃o:Obj,W.heap[r]? =some o/\o.isCells=false:=fun r e=>(hr r e).2
 have gG:W'.heap[w.heap.size]? =W.heap[w.heap.size]? :=hg.block _ (by omega) (fun e=>by
  obtain⟨o,ho,hn⟩:=hne _ e.symm;rw[hh]at ho;cases ho;cases hn)
 refine⟨dI,eG,⟨hg.os.trans m.os,hg.tape.trans m.tape,hg.output.trans m.output,cG m.size hg.size,fun k pZ hk2 hk3 hk4=>(hg.block k (jv pZ m.size) (fun e=>by have:=(hr k e.symm).1;omega)).trans (m.block k pZ hk2 hk3 hk4),m.BG,m.Ax⟩,mO h hg hne,?_,gG.trans hh,cG hs hg.size,hk⟩;rw[<-c];simp[World.cell?,gG]
theorem E1(w:World)(base g:Nat)(D:Nat->Prop)(fx:List Value)(s:Sp.St)(vT vF:Value)(h:aJ w base g D fx s vT vF)(hI:Sp.cq s)(A:Option Addr)(cA b:Nat)(l:List Int)(hH:Bk.Holds w b (.slice A l.length cA) l)(hb:b<=w.heap.size)(hbg:b≠g)(hbT:some b≠vT.ownBlock)(L6:some b≠vF.ownBlock)(hl:s.T.length+l.length<=1000000):
 Calls prog 196 #[.pointer (some ⟨g,0,none⟩),.slice A l.length cA] w (bN g base D fx w vT vF (.tuple #[]) (s.back l)):=by
 refine(callsIn_wide (n:=4)).1 ?_;have nC:=aj h.1;have EW:=Kd.gY h.2.2.2.2.1;have yO:=Kd.gY h.2.2.2.2.2.1;refine callsIn_of_wp_marks func196 rfl trivial ?_ rfl;simp only[ntmps196,List.size_toArray,List.length_cons,List.length_nil,Nat.reduceAdd,Nat.reduceSub,Array.replicate_succ,Array.replicate_zero,List.push_toArray,List.append_toArray,List.nil_append,List.cons_append]
 gi_wp2_with (refine⟨trivial,?_⟩;gi_at_call 195;refine(Bk.CY Fence.wide (4-1) trivial rfl _ _ _ _).mono ?_;rintro e w'⟨rfl,rfl⟩)
 have h0:aJ ((w.alloc (.cells #[.pointer (some ⟨g,0,none⟩)] 104)).alloc (.cells #[.slice A l.length cA] 23)) base g D fx s vT vF:=aI (aI h _) _;have m0:Mv g w ((w.alloc (.cells #[.pointer (some ⟨g,0,none⟩)] 104)).alloc (.cells #[.slice A l.length cA] 23)) vT vF vT vF:=Mv.bF (af (af (ay _ _) _) _);have x0:((w.alloc (.cells #[.pointer (some ⟨g,0,none⟩)] 104)).alloc (.cells #[.slice A l.length cA] 23)).heap[w.heap.size]? =some (.cells #[.pointer (some ⟨g,0,none⟩)] 104 (0,0)):=bh (dh w _) _;have x1:((w.alloc (.cells #[.pointer (some ⟨g,0,none⟩)] 104)).alloc (.cells #[.slice A l.length cA] 23)).cell? ⟨w.heap.size+1,0,none⟩=some (.slice A l.length cA):=by simp[go_sem]
 have x2:((w.alloc (.cells #[.pointer (some ⟨g,0,none⟩)] 104)).alloc (.cells #[.slice A l.length cA] 23)).heap.size=w.heap.size+2:=by simp
 have x3:Bk.Holds ((w.alloc (.cells #[.pointer (some ⟨g,0,none⟩)] 104)).alloc (.cells #[.slice A l.length cA] 23)) b (.slice A l.length cA) l:=by
  rcases hH with⟨e,e2⟩|⟨off,cap,e,hc⟩
  ·exact .inl ⟨e,e2⟩
  ·exact .inr ⟨off,cap,e,fun j hj=>ak (ak (hc j hj))⟩
 generalize hW0:(w.alloc (.cells #[.pointer (some ⟨g,0,none⟩)] 104)).alloc (.cells #[.slice A l.length cA] 23)=W0 at h0 m0 x0 x1 x2 x3⊢
 have hI0:Js w base g b D fx s vT vF [] W0:=⟨vT,vF,m0,h0,(aa x0 0).trans rfl,x0,by omega,fun k hk=>by
  rcases hk with rfl|rfl|rfl
  ·exact⟨hbg,hbT,L6⟩
  ·exact⟨by omega,fun e=>by have:=EW _ e.symm;omega,fun e=>by have:=yO _ e.symm;omega⟩
  ·exact⟨by omega,fun e=>by have:=EW _ e.symm;omega,fun e=>by have:=yO _ e.symm;omega⟩⟩
 refine wpIn_rangeFunc_ownG rfl (by omega) (gf:=220) (lb:=#[.pointer (some ⟨w.heap.size+1,0,none⟩)]) rfl trivial (enters_of func220 (by kernel_rfl) rfl)
  (Bk.sX Fence.wide (4-1) trivial rfl (by omega) (w.heap.size+1) b _ l (by omega) W0 (by omega) (by omega) x1 x3) CZ (C8 (by omega) (by omega)) (ay _ _) (fun _=>rfl)
  (Js w base g b D fx s vT vF) (fun _ _ _=>False) (KG (by omega)) (fun _ _ _ _ _ hs _ _=>hs) hI0
  (fun x=> {tmps:=#[.pointer (some ⟨g,0,none⟩),.slice A l.length cA,.pointer (some ⟨w.heap.size,0,none⟩),undef,undef,.int .i64 x.2,.slice A l.length cA,.func (.func 220) #[] #[.pointer (some ⟨w.heap.size+1,0,none⟩)],.int .i64 x.1,.int .i64 x.2,undef,undef,undef,undef],defers:= []}) ?assign ?body ?done ?stop
 case assign=>
  intro l x W K hK
  gi_wp2
  exact hK
 case body=>
  rintro lp pre x W⟨qV,qW,m1,h1,c1,Tg,hs1,pZ⟩hpre;have hlen:(pz s pre).T.length+1<=1000000:=by rw[BN];simp[Sp.St.push];omega
  have cm:=zg [x.2] h1 rfl rfl (t:=3) hlen;have HS:=hd h1;have HM:=hd m1;have HH:=hd Tg;have HK:=hd pZ;have HC:=hd cm;clear h1 m1 Tg pZ cm hlen
  gi_wp2
  refine⟨trivial,?_⟩;refine(CallsIn.inRound lp (callsIn_wide.2 HC.o)).mono ?_;rintro e W2⟨rfl,qu,sY,m2,h2⟩;have Jp:=hd m2;have iM:=hd h2;clear m2 h2;have pZ:=HK.o;have hs:=HM.o.size;have blt:b<W.heap.size:=by omega
  have lJ: ∀k,k=b\/k=w.heap.size\/k=w.heap.size+1->W2.heap[k]? =W.heap[k]? :=fun k hk=>Jp.o.block k (by rcases hk with rfl|rfl|rfl<;>omega) (pZ k hk).1 (pZ k hk).2.1 (pZ k hk).2.2
  have hk2: ∀k,k=b\/k=w.heap.size\/k=w.heap.size+1->k≠g/\some k≠qu.ownBlock/\some k≠sY.ownBlock:=fun k hk=>by
   have Wp:k<W.heap.size:=by rcases hk with rfl|rfl|rfl<;>omega
   refine⟨(pZ k hk).1,fun e=>?_,fun e=>?_⟩
   ·rcases Jp.o.BG k e.symm with h|h
    ·exact(pZ k hk).2.1 h.symm
    ·omega
   ·rcases Jp.o.Ax k e.symm with h|h
    ·exact(pZ k hk).2.2 h.symm
    ·omega
  have gG:W2.heap[w.heap.size]? =some (.cells #[.pointer (some ⟨g,0,none⟩)] 104 (0,0)):=(lJ _ (.inr (.inl rfl))).trans HH.o;have c2:W2.cell? ⟨w.heap.size,0,none⟩=some (.pointer (some ⟨g,0,none⟩)):=(aa gG 0).trans rfl;have Hh:=Jp.o.size;have KF:=hd (nV (B:=W0.heap.size) HS.o Jp.o);have E:Hid (Js w base g b D fx s vT vF (pre++ [x]) W2):=hd ⟨qu,sY,HM.o.trans Jp.o,by rw[E0];exact iM.o,c2,gG,by omega,hk2⟩;have G4:=hd lJ;clear pZ lJ hk2 gG c2
  gi_wp2
  exact⟨KF.o,⟨G4.o b (.inl rfl),G4.o _ (.inr (.inr rfl))⟩,E.o⟩
 case done=>
  rintro Dq ys W hD rfl⟨qV,qW,m1,h1,c1,Tg,hs1,pZ⟩hK
  gi_wp2
  refine⟨by simp,.inl ⟨_,_,rfl,run_takeDeferred hK,?_⟩⟩;refine⟨_,results_none rfl _ _ _,rfl,qV,qW,m1.other (grownBy_putObj' W Dq _) (fun r e=>by cases e;omega),?_⟩;rw[<-Hp s l];exact mO h1 (grownBy_putObj' W Dq _) (fun r e=>by cases e;exact⟨_,hK,rfl⟩)
 case stop=>
  rintro Dq cc pre W _ _ hf _;exact hf.elim
theorem Da(w:World)(base g:Nat)(D:Nat->Prop)(fx:List Value)(s:Sp.St)(vT vF v:Value)(h:aJ w base g D fx s vT vF)(hI:Sp.cq s)(l:List Int)(hA:nh w g vT vF v l)(hl:s.T.length+l.length<=1000000):
 Calls prog 196 #[.pointer (some ⟨g,0,none⟩),v] w (bN g base D fx w vT vF (.tuple #[]) (s.back l)):=by
 obtain⟨A,c,b,rfl,hH,hbl,hb,h1,h2,h3⟩:=hA;exact E1 w base g D fx s vT vF h hI A c b l hH hb h1 h2 h3 hl
end Go.Proofs.YthehihjcpiadgaaGreat
namespace Go.Proofs.YthehihjcpiadgaaGreat
open Go.RowKit Go.Proofs.Wz.PrintWords Go.Proofs.Wz.bM
structure qZ(g:Nat)(w w':World):Prop where
 os:w'.os=w.os
 tape:w'.tape=w.tape
 output:w'.output=w.output
 size:w'.heap.size=w.heap.size
 block: ∀k,k≠g->w'.heap[k]? =w.heap[k]?
theorem qZ.refl(g:Nat)(w:World):qZ g w w:=⟨rfl,rfl,rfl,rfl,fun _ _=>rfl⟩
theorem qZ.drewN{g:Nat}{a b:World}(h:qZ g a b)(n:Nat):qZ g a (b.drewN n):=⟨h.os,h.tape,h.output,h.size,h.block⟩
theorem qZ.set{g:Nat}{a b:World}(h:qZ g a b)(j:Nat)(v:Value):qZ g a (b.setCell ⟨g,j,none⟩ v):=
 ⟨h.os,h.tape,h.output,by simp only[World.setCell];simpa using h.size,fun k hk=>(dX b ⟨g,j,none⟩ v k hk).trans (h.block k hk)⟩
def Hq(g base:Nat)(D:Nat->Prop)(fx:List Value)(w:World)(vT vF:Value)(r:Value)(s':Sp.St)(e:Ending)(w':World):Prop:=
 e= .returned r/\ ∃dI,dI.ownBlock=vT.ownBlock/\qZ g w w'/\aJ w' base g D fx s' dI vF
theorem XV(w:World)(base g:Nat)(D:Nat->Prop)(fx:List Value)(s:Sp.St)(vT vF:Value)(h:aJ w base g D fx s vT vF)(hI:Sp.cq s)(hle:(s.T.length:Int)<=s.top.f2):Calls prog 96 #[.pointer (some ⟨g,0,none⟩)] w (Hq g base D fx w vT vF (.int .i64 0) ⟨s.T,s.F,s.bad|| !s.top.f3⟩):=by
 obtain⟨gf,cap,wJ,sS,xd,xe⟩:=fC h hI.1;have nD:=hd (jT w base g D fx s vT vF h hI gf cap wJ);subst wJ;obtain⟨i1,i2,i3,i4,i5⟩:=hI;obtain⟨j,hj⟩: ∃j,s.F.length=j+1:=⟨s.F.length-1,by omega⟩;obtain⟨t0,t1⟩:=i4 (j:Int) (by omega) (by omega);have ng:s.top=bB s.F (j:Int):=by unfold Sp.St.top;rw[hj];congr 1;omega
 have HS:=hd h;obtain⟨hg0,iR,hb,sR,hT,hF,o9,hD⟩:=h;obtain⟨cs,lJ,qc,hcc,oJ⟩:=Kd.kR hF IU (j:Int) (by omega) (by omega);obtain⟨v1,v2,hcs,hr1,hr2⟩:=kV qc;subst hcs;rw[dF]at hcc oJ hr1 hr2;obtain⟨f,hf⟩:=ex (bB s.F (j:Int));rw[show s.F.getD j IU=f from hf.symm]at hcc hr1 hr2;rw[<-hf]at ng t0 t1;have m3:w.cell? ⟨gf,j*5+3,none⟩=some (.int .i64 f.f2):=hcc 3 _ rfl;have m4:w.cell? ⟨gf,j*5+4,none⟩=some (.bool f.f3):=hcc 4 _ rfl;have n4:w.frozen? ⟨gf,j*5+4,none⟩=false:=oJ 4;have ej:s.F.length-1=j:=by omega
 rw[ej]at nD;have c11:=(aa hg0 11).trans (kY iR _ _ _);have c13:=(aa hg0 13).trans (dy iR _ _ _);have f11:=ah hg0 11;have f13:=ah hg0 13;obtain⟨P,kT,rfl⟩:=Kd.ai hT;rw[ng]at hle⊢;have hle1:decide ((s.T.length:Int)<=f.f2)=true:=iz hle;clear ng hf;clear hg0 hT hF o9 hD hcc oJ lJ qc hr1 hr2 iR i4 i5;cases hbd:s.bad with
 |true=>
  rw[hbd]at c13
  go_enter func96,ntmps96
  go_wp2_with (first|((go_at_call 144);(with_reducible refine nD.o.mono ?_);rintro e w'⟨rfl,nt,rfl⟩))
  go_quiet (fail)
  go_wp2_with fail
  go_ret;refine⟨rfl,_,rfl,((qZ.refl g w).drewN _).set 13 _,?_⟩;exact eC (bT HS.o _) true
 |false=>
  rw[hbd]at c13
  go_enter func96,ntmps96
  go_wp2_with (first|((go_at_call 144);(with_reducible refine nD.o.mono ?_);rintro e w'⟨rfl,nt,rfl⟩))
  go_quiet (fail)
  go_wp2_with fail
  go_ret;refine⟨rfl,_,rfl,((qZ.refl g w).drewN _).set 13 _,?_⟩;rw[Bool.false_or];exact eC (bT HS.o _) _
theorem XW(w:World)(base g:Nat)(D:Nat->Prop)(fx:List Value)(s:Sp.St)(vT vF:Value)(h:aJ w base g D fx s vT vF)(hI:Sp.cq s)(hle: ¬(s.T.length:Int)<=s.top.f2):Calls prog 96 #[.pointer (some ⟨g,0,none⟩)] w (Hq g base D fx w vT vF (.int .i64 (rd s.T ((s.T.length:Int)-1))) ⟨s.T.take (s.T.length-1),s.F,s.bad⟩):=by
 obtain⟨gf,cap,wJ,sS,xd,xe⟩:=fC h hI.1;have nD:=hd (jT w base g D fx s vT vF h hI gf cap wJ);subst wJ;obtain⟨i1,i2,i3,i4,i5⟩:=hI;obtain⟨j,hj⟩: ∃j,s.F.length=j+1:=⟨s.F.length-1,by omega⟩;obtain⟨t0,t1⟩:=i4 (j:Int) (by omega) (by omega);have ng:s.top=bB s.F (j:Int):=by unfold Sp.St.top;rw[hj];congr 1;omega
 have HS:=hd h;obtain⟨hg0,iR,hb,sR,hT,hF,o9,hD⟩:=h;obtain⟨cs,lJ,qc,hcc,oJ⟩:=Kd.kR hF IU (j:Int) (by omega) (by omega);obtain⟨v1,v2,hcs,hr1,hr2⟩:=kV qc;subst hcs;rw[dF]at hcc oJ hr1 hr2;obtain⟨f,hf⟩:=ex (bB s.F (j:Int));rw[show s.F.getD j IU=f from hf.symm]at hcc hr1 hr2;rw[<-hf]at ng t0 t1;have m3:w.cell? ⟨gf,j*5+3,none⟩=some (.int .i64 f.f2):=hcc 3 _ rfl;have m4:w.cell? ⟨gf,j*5+4,none⟩=some (.bool f.f3):=hcc 4 _ rfl;have n4:w.frozen? ⟨gf,j*5+4,none⟩=false:=oJ 4;have ej:s.F.length-1=j:=by omega
 rw[ej]at nD;have c11:=(aa hg0 11).trans (kY iR _ _ _);have c13:=(aa hg0 13).trans (dy iR _ _ _);have f11:=ah hg0 11;have f13:=ah hg0 13;rw[ng]at hle;have XO:0<s.T.length:=by omega
 obtain⟨gT,kT,rfl,-,-,-⟩:=Kd.qz hT XO;obtain⟨m,hm⟩: ∃m,s.T.length=m+1:=⟨s.T.length-1,by omega⟩;have hel:=(Kd.Gz (0:Int) hT (m:Int) (by omega) (by omega)).1;rw[dF]at hel;have Uq:w.cell? ⟨gT,m,none⟩=some (.int .i64 (rd s.T (m:Int))):=hel;have ev:(s.T.length:Int)-1=(m:Int):=by omega
 rw[ev];obtain⟨r,hr⟩:=ex (rd s.T (m:Int));rw[<-hr]at Uq⊢;have hle1:decide ((m:Int)+1<=f.f2)=false:=jP (by omega);have hle2: ¬((m:Int)+1<=f.f2):=by omega
 rw[hm]at c11;have hm0:(0:Int)<=(m:Int):=by omega
 have Gk:(m:Int)<(m:Int)+1:=by omega
 have hcap:(m:Int)<=(kT:Int):=by have:=(Kd.bA hT).2.1;omega
 have HT:=hd hT;have HF:=hd hF;have HG:=hd hg0;have iL:=hd iR;have Uo:=hd o9;have HD:=hd hD;have gZ:=hd hm;have hw0:wrap64 (m:Int)=(m:Int):=Tx.xR (by omega) (by omega);have hwi:IntKind.i64.wrap (m:Int)=(m:Int):=(Aw _).trans hw0;clear ng hf hel hr hm ev hle XO;clear hg0 hT hF o9 hD hcc oJ lJ qc hr1 hr2 iR i4 i5
 go_enter func96,ntmps96
 go_wp2_with (first|((go_at_call 144);(with_reducible refine nD.o.mono ?_);rintro e w'⟨rfl,nt,rfl⟩))
 go_quiet (fail)
 go_wp2_with fail
 go_quiet (fail)
 go_wp2_with fail
 refine Mp (n:=15) (S:=fun w'=>w'.cell? ⟨g,11,none⟩=some (.slice (some ⟨gT,0,none⟩) (m+1) kT)) (ds:= [14]) #[false,false,false,false,false,false,false,false,false,false,false,false,false,false,false] (by kernel_rfl) rfl rfl c11 (fun ag=>?_);refine oh (i:=0) (N:=some 43) (v:=?_) (a':=?_) #[true,false,false,false,false,false,false,false,false,false,false,false,false,false,false] rfl rfl (by kernel_rfl) (fun _ _ _ h=>h) (Or.inl ⟨by rfl,?_⟩) ?_ ?_;rotate_left
 ·intro w'
  go_simp
  try with_reducible rfl
 rotate_left
 ·simp only[Act.put,List.setIfInBounds_toArray,List.set_cons_zero,List.set_cons_succ,ja,jf]
  rfl
 refine oh (i:=1) (N:=some 44) (v:=?_) (a':=?_) #[true,true,false,false,false,false,false,false,false,false,false,false,false,false,false] rfl rfl (by kernel_rfl) (fun _ _ _ h=>h) (Or.inl ⟨by rfl,?_⟩) ?_ ?_;rotate_left
 ·intro w'
  go_simp
  try with_reducible rfl
 rotate_left
 ·simp only[Act.put,List.setIfInBounds_toArray,List.set_cons_zero,List.set_cons_succ,ja,jf]
  rfl
 refine oh (i:=2) (N:=some 45) (v:=?_) (a':=?_) #[true,true,true,false,false,false,false,false,false,false,false,false,false,false,false] rfl rfl (by kernel_rfl) (fun _ _ _ h=>h) (Or.inl ⟨by rfl,?_⟩) ?_ ?_;rotate_left
 ·intro w'
  go_simp
  try with_reducible rfl
 rotate_left
 ·simp only[Act.put,List.setIfInBounds_toArray,List.set_cons_zero,List.set_cons_succ,ja,jf]
  rfl
 refine oh (i:=3) (N:=some 46) (v:=?_) (a':=?_) #[true,true,true,true,false,false,false,false,false,false,false,false,false,false,false] rfl rfl (by kernel_rfl) (fun _ _ _ h=>h) (Or.inl ⟨by rfl,?_⟩) ?_ ?_;rotate_left
 ·intro w'
  go_simp
  try with_reducible rfl
 rotate_left
 ·simp only[Act.put,List.setIfInBounds_toArray,List.set_cons_zero,List.set_cons_succ,ja,jf]
  rfl
 refine Ef (i:=4) (N:=some 47) (v:=?_) (a':=?_) #[true,true,true,true,true,false,false,false,false,false,false,false,false,false,false] rfl rfl (by kernel_rfl) (fun _ _ _ h=>h) (Or.inl ⟨by rfl,?_⟩) ag ?_ ?_;rotate_left
 ·intro w' s0
  go_simp
  try with_reducible rfl
 rotate_left
 ·simp only[Act.put,List.setIfInBounds_toArray,List.set_cons_zero,List.set_cons_succ,ja,jf]
  rfl
 refine oh (i:=5) (N:=some 48) (v:=?_) (a':=?_) #[true,true,true,true,true,true,false,false,false,false,false,false,false,false,false] rfl rfl (by kernel_rfl) (fun _ _ _ h=>h) (Or.inl ⟨by rfl,?_⟩) ?_ ?_;rotate_left
 ·intro w'
  go_simp
  try with_reducible rfl
 rotate_left
 ·simp only[Act.put,List.setIfInBounds_toArray,List.set_cons_zero,List.set_cons_succ,ja,jf]
  rfl
 refine oh (i:=6) (N:=some 49) (v:=?_) (a':=?_) #[true,true,true,true,true,true,true,false,false,false,false,false,false,false,false] rfl rfl (by kernel_rfl) (fun _ _ _ h=>h) (Or.inl ⟨by rfl,?_⟩) ?_ ?_;rotate_left
 ·intro w'
  go_simp
  try with_reducible rfl
 rotate_left
 ·simp only[Act.put,List.setIfInBounds_toArray,List.set_cons_zero,List.set_cons_succ,ja,jf]
  rfl
 refine oh (i:=7) (N:=some 50) (v:=?_) (a':=?_) #[true,true,true,true,true,true,true,true,false,false,false,false,false,false,false] rfl rfl (by kernel_rfl) (fun _ _ _ h=>h) (Or.inl ⟨by rfl,?_⟩) ?_ ?_;rotate_left
 ·intro w'
  go_simp
  try with_reducible rfl
 rotate_left
 ·simp only[Act.put,List.setIfInBounds_toArray,List.set_cons_zero,List.set_cons_succ,ja,jf]
  rfl
 refine Ef (i:=8) (N:=some 51) (v:=?_) (a':=?_) #[true,true,true,true,true,true,true,true,true,false,false,false,false,false,false] rfl rfl (by kernel_rfl) (fun _ _ _ h=>h) (Or.inl ⟨by rfl,?_⟩) ag ?_ ?_;rotate_left
 ·intro w' s0
  go_simp
  try with_reducible rfl
 rotate_left
 ·simp only[Act.put,List.setIfInBounds_toArray,List.set_cons_zero,List.set_cons_succ,ja,jf]
  rfl
 refine oh (i:=9) (N:=some 52) (v:=?_) (a':=?_) #[true,true,true,true,true,true,true,true,true,true,false,false,false,false,false] rfl rfl (by kernel_rfl) (fun _ _ _ h=>h) (Or.inl ⟨by rfl,?_⟩) ?_ ?_;rotate_left
 ·intro w'
  go_simp
  try with_reducible rfl
 rotate_left
 ·simp only[Act.put,List.setIfInBounds_toArray,List.set_cons_zero,List.set_cons_succ,ja,jf]
  rfl
 refine oh (i:=10) (N:=some 53) (v:=?_) (a':=?_) #[true,true,true,true,true,true,true,true,true,true,true,false,false,false,false] rfl rfl (by kernel_rfl) (fun _ _ _ h=>h) (Or.inl ⟨by rfl,?_⟩) ?_ ?_;rotate_left
 ·intro w'
  go_simp
  try with_reducible rfl
 rotate_left
 ·simp only[Act.put,List.setIfInBounds_toArray,List.set_cons_zero,List.set_cons_succ,ja,jf]
  rfl
 refine oh (i:=11) (N:=some 54) (v:=?_) (a':=?_) #[true,true,true,true,true,true,true,true,true,true,true,true,false,false,false] rfl rfl (by kernel_rfl) (fun _ _ _ h=>h) (Or.inl ⟨by rfl,?_⟩) ?_ ?_;rotate_left
 ·intro w'
  go_simp
  try with_reducible rfl
 rotate_left
 ·simp only[Act.put,List.setIfInBounds_toArray,List.set_cons_zero,List.set_cons_succ,ja,jf]
  rfl
 refine oh (i:=12) (N:=some 55) (v:=?_) (a':=?_) #[true,true,true,true,true,true,true,true,true,true,true,true,true,false,false] rfl rfl (by kernel_rfl) (fun _ _ _ h=>h) (Or.inl ⟨by rfl,?_⟩) ?_ ?_;rotate_left
 ·intro w'
  go_simp
  try with_reducible rfl
 rotate_left
 ·simp only[Act.put,List.setIfInBounds_toArray,List.set_cons_zero,List.set_cons_succ,ja,jf]
  rfl
 refine oh (i:=13) (N:=some 56) (v:=?_) (a':=?_) #[true,true,true,true,true,true,true,true,true,true,true,true,true,true,false] rfl rfl (by kernel_rfl) (fun _ _ _ h=>h) (Or.inl ⟨by rfl,?_⟩) ?_ ?_;rotate_left
 ·intro w'
  go_simp
  try with_reducible rfl
 rotate_left
 ·simp only[Act.put,List.setIfInBounds_toArray,List.set_cons_zero,List.set_cons_succ,ja,jf]
  rfl
 refine Mr (i:=14) (N:=none) #[true,true,true,true,true,true,true,true,true,true,true,true,true,true,true] rfl rfl (by kernel_rfl) (by decide) (fun K hK=>?_);rw[if_pos (by rfl)]
 go_simp
 refine hK.o _ _ ?_;clear hK K;refine SN (by kernel_rfl) ?_
 go_wp2_with fail
 go_ret;refine⟨rfl,.slice (some ⟨gT,0,none⟩) m kT,rfl,((qZ.refl g w).drewN _).set 11 _,?_⟩;clear hw0 hwi;have Jn:=gZ.o;have e:s.T.length-1=m:=by omega
 rw[e];exact ov (s:=s) (by exact HG.o) iL.o hb sR (Kd.bU (Kd.nR (m:=m) HT.o (by omega)) _) (Kd.bQ (Kd.bU HF.o _) (fun k hk=>⟨hk.1,hk.2⟩)) Uo.o HD.o
theorem E4(w:World)(base g:Nat)(D:Nat->Prop)(fx:List Value)(s:Sp.St)(vT vF:Value)(h:aJ w base g D fx s vT vF)(hI:Sp.cq s):Calls prog 96 #[.pointer (some ⟨g,0,none⟩)] w (Hq g base D fx w vT vF (.int .i64 s.any.1) s.any.2):=by
 unfold Sp.St.any;by_cases hle:(s.T.length:Int)<=s.top.f2
 ·rw[if_pos hle]
  exact XV w base g D fx s vT vF h hI hle
 ·rw[if_neg hle]
  exact XW w base g D fx s vT vF h hI hle
end Go.Proofs.YthehihjcpiadgaaGreat
