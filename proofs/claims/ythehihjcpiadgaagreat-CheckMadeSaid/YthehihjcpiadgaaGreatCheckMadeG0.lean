import Derived.Below
import Derived.Deep.Draws
import Derived.Deep.AppendLies
import Derived.Maps.AppendAt
import Derived.OwnWalk
import Derived.Laws.BytesArg
import Derived.Laws.MakeOwn
import Derived.Laws.OwnMore
import Derived.Deep.OwnRows
import Derived.Tactics
import Derived.Lib.ConvBytes
import Derived.Laws.Slices
import Derived.WalkKit
import Derived.KernelRfl
import Derived.RowKit3
import Derived.Deep.LoopGhost
import Derived.Deep.QuietTactic
import Derived.BigQuiet
import Derived.WideLaws
import Derived.Deep.DeepCutAuto
import Derived.Deep.CutBlock
import Derived.Deep.RegionHeld3
import Derived.Laws.Rows
import Derived.Lib.AppendStr
import Derived.ArgAppend
import Derived.Laws.IdiomCopy
import Derived.RowKit
import Derived.OrdersHeld
import Derived.Laws.BitsLemmas
import Derived.Laws.StructEq
import Derived.SizedLaws
import Derived.ChangeSlices
set_option maxRecDepth 100000
set_option maxHeartbeats 0
set_option linter.all false
namespace Go.Proofs.Wz.PrintWords
open Go.RowKit
structure bu(p:Prop):Prop where mk::(out:p)
def rd(xs:List Int)(i:Int):Int:=xs.getD i.toNat 0
theorem af{w W:World}(h:Below w.heap.size w W)(o:Obj):Below w.heap.size w (W.alloc o):=h.alloc h.size o
theorem aX{B:Nat}{w W:World}(h:Below B w W):Below B w W.drew:=⟨h.os,h.tape,h.output,h.size,h.block⟩
theorem aq{B:Nat}{w W:World}(h:Below B w W)(n:Nat):Below B w (W.drewN n):=⟨h.os,h.tape,h.output,h.size,h.block⟩
theorem aA{B:Nat}{w w1 w2:World}(h:Below B w w1)(hB:B<=w1.heap.size)(k:Below w1.heap.size w1 w2):Below B w w2:=
 h.trans ⟨k.os,k.tape,k.output,k.size,fun i hi=>k.block i (Nat.lt_of_lt_of_le hi hB)⟩
theorem qx{B:Nat}{w w1:World}(h:Below B w w1)(row:Option Nat)(hB:B<=w1.heap.size){w2:World}(hg:w1.grownBy w2 row)(hr: ∀k,row=some k->B<=k):Below B w w2:=h.grown hg hB hr
theorem Ai{w w1:World}(h:Below w.heap.size w w1){a:Addr}{v:Value}(hc:w.cell? a=some v):w1.cell? a=some v:=(h.cell (World.block_lt_of_cell? w a hc)).trans hc
theorem add_plain(g j:Nat):(⟨g,0,none⟩:Addr).add j=⟨g,j,none⟩:=by unfold Addr.add;split<;>simp_all
def jD(w:World)(k:IntKind)(A:Option Addr)(n:Nat)(xs:List Int):Prop:=
 xs.length=n/\n<=9223372036854775807/\(0<n-> ∃ad,A=some ad/\ ∀j,j<n->w.cell? (ad.add j)=some (.int k (xs.getD j 0)))
theorem Qs(W:World)(base:Nat)(e:TypeId)(size:Nat):W.ownsRow base e size (.slice none 0 0) 0 []:=⟨by simp,.inl ⟨rfl,rfl⟩⟩
theorem iN{w:World}{base:Nat}{e:TypeId}{size n:Nat}{v:Value}{xs:List Value}(h:w.ownsRow base e size v n xs)(k:Nat)(hk:v.ownBlock=some k):base<=k:=by
 rcases h.2 with⟨rfl,_⟩|⟨g,cap,cur,rfl,hb,_⟩
 ·simp[Value.ownBlock]at hk
 ·have:g=k:=by simpa[Value.ownBlock]using hk
  omega
theorem iC{w:World}{base:Nat}{e:TypeId}{size n:Nat}{v:Value}{xs:List Value}(h:w.ownsRow base e size v n xs)(k:Nat)(hk:v.ownBlock=some k):k<w.heap.size:=by
 rcases h.2 with⟨rfl,_⟩|⟨g,cap,cur,rfl,hb,hh,_⟩
 ·simp[Value.ownBlock]at hk
 ·have:g=k:=by simpa[Value.ownBlock]using hk
  subst this;exact(Array.getElem?_eq_some_iff.1 hh).1
theorem JS{w:World}{base n:Nat}{e:TypeId}{size:Nat}{v:Value}{xs:List Value}(h:w.ownsRow base e size v n xs): ∃A c,v= .slice A n c:=by
 rcases h.2 with⟨rfl,rfl⟩|⟨g,cap,cur,rfl,_⟩
 ·exact⟨none,0,rfl⟩
 ·exact⟨_,cap,rfl⟩
section
variable {P:Program} {ops:Array Oper} {rest:List Oper} {o:Oper} {a:Act} {Q:Exit->Act->World->Prop}
end
section
variable {P:Program}
end
section
variable {P:Program} {ops:Array Oper} {rest:List Oper} {o:Oper} {a:Act} {Q:Exit->Act->World->Prop}
end
def bytesOf(s:ByteArray):List Int:=s.data.toList.map fun b=>(b.toNat:Int)
theorem wC(s:ByteArray):s.data.toList.length=s.size:=by rw[Array.length_toList];rfl
theorem je(s:ByteArray):(bytesOf s).length=s.size:=by rw[bytesOf,List.length_map,wC]
theorem Ec{P:Program}(src dst e:TypeId){u:TypeDesc}(hs:P.underlying src=some u)(hd:P.underlying dst=some (.slice e))(he:P.underlying e=some (.int .u8))(s:ByteArray)(W:World):
 (convert src dst (.string s)).run P W= .ok (.slice (some ⟨W.heap.size,0,none⟩) s.size (grownCap W s.size 0 e)) (Lib.bytesWorld W e s):=Lib.run_convert_string_bytes W src dst e s hs hd he
theorem Ed(W:World)(e:TypeId)(s:ByteArray)(hs:s.size<=9223372036854775807):jD (Lib.bytesWorld W e s) .u8 (some ⟨W.heap.size,0,none⟩) s.size (bytesOf s):=by
 refine⟨je s,hs,fun _=>⟨_,rfl,fun j hj=>?_⟩⟩;rw[add_plain,Lib.bytesWorld_cell W e s j hj];have h':j<s.data.toList.length:=by rw[wC];exact hj
 simp[bytesOf,List.getD_eq_getElem?_getD,List.getElem?_eq_getElem h']
theorem Ee{B:Nat}{w W:World}(h:Below B w W)(hB:B<=W.heap.size)(e:TypeId)(s:ByteArray):Below B w (Lib.bytesWorld W e s):=
 h.trans ⟨rfl,rfl,rfl,by rw[Lib.bytesWorld_size];omega,fun i hi=>Lib.bytesWorld_at_old W e s i (by omega)⟩
def dU{α:Type}(R:α->List Value->Prop)(size:Nat)(ps:List α)(cs:List Value):Prop:=
 cs.length=ps.length*size/\ ∀j p,ps[j]? =some p->R p ((cs.drop (j*size)).take size)
theorem dU.none{α:Type}(R:α->List Value->Prop)(size:Nat):dU R size [] []:=⟨by simp,fun j p h=>by simp at h⟩
theorem dU.snoc{α:Type}{R:α->List Value->Prop}{size:Nat}{ps:List α}{cs c:List Value}{p:α}(h:dU R size ps cs)(hp:R p c)(hc:c.length=size):dU R size (ps++ [p]) (cs++c):=by
 refine⟨by rw[List.length_append,h.1,hc,List.length_append,List.length_singleton,Nat.add_mul,Nat.one_mul],fun j q hq=>?_⟩;rcases Nat.lt_or_ge j ps.length with hj|hj
 ·rw[List.getElem?_append_left hj]at hq
  have h1:j*size+size<=cs.length:=by rw[h.1,<-Nat.succ_mul];exact Nat.mul_le_mul_right _ hj
  have h2:=h.2 j q hq;rw[List.drop_append_of_le_length (by omega),List.take_append_of_le_length (by rw[List.length_drop];omega)];exact h2
 ·have hj':j=ps.length:=by
   have:=(List.getElem?_eq_some_iff.1 hq).1;rw[List.length_append,List.length_singleton]at this;omega
  subst hj';have hq':p=q:=by simpa using hq
  subst hq';rw[<-h.1,List.drop_left,<-hc,List.take_length];exact hp
theorem dU.lU{α:Type}{R R':α->List Value->Prop}{size:Nat}{ps:List α}{cs:List Value}(h:dU R size ps cs)(hR: ∀p c,R p c->R' p c):dU R' size ps cs:=⟨h.1,fun j p hj=>hR _ _ (h.2 j p hj)⟩
def eu{α:Type}(R:α->List Value->Prop)(size:Nat)(w:World)(A:Option Addr)(n:Nat)(ps:List α):Prop:=
 ps.length=n/\n<=9223372036854775807/\(0<n-> ∃ad,A=some ad/\ ∀j p,ps[j]? =some p-> ∃c,c.length=size/\R p c/\ ∀i u,c[i]? =some u->w.cell? (ad.add (j*size+i))=some u)
theorem eu.abt{α:Type}{R:α->List Value->Prop}{size:Nat}{w:World}{A:Option Addr}{n:Nat}{ps:List α}(h:eu R size w A n ps)(d:α)(i:Int)(h0:0<=i)(h1:i<n):
 ∃ad c,A=some ad/\c.length=size/\R (ps.getD i.toNat d) c/\ ∀j u,c[j]? =some u->w.cell? (ad.add (i.toNat*size+j))=some u:=by
 obtain⟨ad,e,hc⟩:=h.2.2 (by omega);have hl:i.toNat<ps.length:=by have:=h.1;omega
 obtain⟨c,hs,hr,hcell⟩:=hc i.toNat _ (List.getElem?_eq_getElem hl);refine⟨ad,c,e,hs,?_,hcell⟩;rw[List.getD_eq_getElem?_getD,List.getElem?_eq_getElem hl];exact hr
theorem eu.lU{α:Type}{R R':α->List Value->Prop}{size:Nat}{w w1:World}{A:Option Addr}{n:Nat}{ps:List α}(h:eu R size w A n ps)(hb:Below w.heap.size w w1)(hR: ∀p c,R p c->R' p c):eu R' size w1 A n ps:=
 ⟨h.1,h.2.1,fun hn=>by
  obtain⟨ad,e,hc⟩:=h.2.2 hn;refine⟨ad,e,fun j p hj=>?_⟩;obtain⟨c,hs,hr,hcell⟩:=hc j p hj;exact⟨c,hs,hR _ _ hr,fun i u hu=>Ai hb (hcell i u hu)⟩⟩
theorem Aj{α:Type}{R:α->List Value->Prop}{w:World}{base n size:Nat}{e:TypeId}{v:Value}{ps:List α}{cs:List Value}(h:w.ownsRow base e size v n cs)(hR:dU R size ps cs)(hn:ps.length=n):
 ∃A c,v= .slice A n c/\eu R size w A n ps:=by
 rcases Nat.eq_zero_or_pos n with h0|h0
 ·rcases h.2 with⟨rfl,rfl⟩|⟨g,cap,cur,rfl,_⟩
  ·exact⟨none,0,rfl,hn,by omega,fun hp=>absurd hp (by omega)⟩
  ·exact⟨_,cap,rfl,hn,by omega,fun hp=>absurd hp (by omega)⟩
 ·obtain⟨g,cap,rfl,_,_⟩:=h.form h0
  have hm:n<=9223372036854775807:=by
   rcases h.2 with⟨_,h1⟩|⟨g',cap',cur,he,_,_,h1,h2,_⟩
   ·omega
   ·simp only[maxLen]at h2
    omega
  refine⟨_,cap,rfl,hn,hm,fun _=>⟨_,rfl,fun j p hj=>⟨(cs.drop (j*size)).take size,?_,hR.2 j p hj,fun i u hu=>?_⟩⟩⟩
  ·have hjl:=(List.getElem?_eq_some_iff.1 hj).1
   have h1:j*size+size<=cs.length:=by rw[hR.1,<-Nat.succ_mul];exact Nat.mul_le_mul_right _ hjl
   rw[List.length_take,List.length_drop];omega
  ·refine h.cells (g:=g) rfl _ u ?_
   rw[List.getElem?_take]at hu
   split at hu
   ·rw[List.getElem?_drop]at hu
    exact hu
   ·cases hu
theorem bV(ad:Addr)(m j:Nat)(hj:0<j):ad.add (m+j)=⟨(ad.add m).block,(ad.add m).off+j,none⟩:=by
 unfold Addr.add;by_cases hm:m=0
 ·subst hm
  simp[Nat.ne_of_gt hj]
 ·simp[hm,Nat.add_assoc]
section
variable {P:Program} {ops:Array Oper} {rest:List Oper} {o:Oper} {a:Act} {Q:Exit->Act->World->Prop}
theorem sG{w0 W:World}(base:Nat)(hgd:o.guard=none)(s x:Operand)(t e:TypeId)(z:Value)(size bytes:Nat)
 (ho:o.op= .call {callee:= .builtin .append,args:=#[s,x],argTypes:=#[t,t]})
 (ht:P.underlying t=some (.slice e)) (hinfo:(P.info? e).map (fun i=>(i.zero,i.size,i.bytes))=some (some z,size,bytes)) (hz:z.cells.size=size) (hs0:0<size) (hb0:0<bytes)
 (v:Value) (n:Nat) (xs ys:List Value) (hs:a.eval s=v) (hx:a.eval x= .slice (some ⟨W.heap.size,0,none⟩) 1 1) (hys:ys.length=size) (h1: ∀u∈ys,u.oneCell'=true)
 (HO:W.ownsRow base e size v n xs) (HB:Below base w0 W) (hbase:base<=W.heap.size) (hl:(n+1)*bytes<=140737488355328)
 (h: ∀v1 w1,w1.ownsRow base e size v1 (n+1) (xs++ys)->Below base w0 w1->W.grownBy w1 v.ownBlock->(v1.ownBlock=v.ownBlock\/ ∃b,v1.ownBlock=some b/\W.heap.size<=b)->wpList P ops Q rest (a.put o.dst v1) w1):
 wpList P ops Q (o::rest) a (W.alloc (.cells ys.toArray e)):=by
 obtain⟨i0,hi,hzz⟩:=Option.map_eq_some_iff.1 hinfo;simp only[Prod.mk.injEq]at hzz;obtain⟨hz0,hz1,hz2⟩:=hzz;have hlen:n+1<=140737488355328:=Nat.le_trans (Nat.le_mul_of_pos_right _ hb0) hl
 refine wpList_append_own_at (W.alloc (.cells ys.toArray e)) hgd s x t ho base e i0 z size bytes ht hi hz0 hz1 hz2 hz hs0 v n xs hs (HO.alloc _) ⟨W.heap.size,0,none⟩ 1 1 ys hx (by rw[hys];simp)
  (by simpa using World.news_of_block (cs:=ys.toArray) (t:=e) (fr:=(0,0)) (heap_alloc_new W (.cells ys.toArray e))) h1 (by simp only[maxLen];omega) hl (by simp;omega) ?_
 intro v1 w1 hown hg _ hat;refine h v1 w1 hown ((HB.alloc hbase _).grown hg (by simp;omega) (iN HO)) (World.grownBy.trans (World.grownBy_alloc W _ _) hg) ?_;rcases hat with hat|hat
 ·exact .inl hat
 ·exact .inr ⟨_,hat,by simp⟩
end
theorem TM{w:World}{base:Nat}{e t:TypeId}{size n g:Nat}{v:Value}{xs:List Value}{cs:Array Value}(h:w.ownsRow base e size v n xs)(hg:w.heap[g]? =some (.cells cs t (0,0)))(hne:e≠t):some g≠v.ownBlock:=by
 rcases h.2 with⟨rfl,_⟩|⟨g',cap,cur,rfl,_,hh,_⟩
 ·simp[Value.ownBlock]
 ·intro he
  have:g=g':=by simpa[Value.ownBlock]using he
  subst this;rw[hg]at hh;injection hh with hh;injection hh with _ ht;exact hne ht.symm
theorem bC{w:World}{g:Nat}{t:TypeId}{cs:Array Value}(h:w.heap[g]? =some (.cells cs t (0,0)))(i:Nat)(u:Value):(w.setCell ⟨g,i,none⟩ u).heap[g]? =some (.cells (cs.setIfInBounds i u) t (0,0)):=by
 simp[World.setCell,Array.getElem?_modify,h]
theorem bR{w:World}{g:Nat}{t:TypeId}{cs:Array Value}(h:w.heap[g]? =some (.cells cs t (0,0))){p:Addr}(hp:g≠p.block)(u:Value):(w.setCell p u).heap[g]? =some (.cells cs t (0,0)):=(Below.heap_setCell w p u g hp).trans h
theorem aj{w:World}{g:Nat}{o:Obj}(h:w.heap[g]? =some o):g<w.heap.size:=(Array.getElem?_eq_some_iff.1 h).1
theorem aa{w:World}{g:Nat}{t:TypeId}{cs:Array Value}(h:w.heap[g]? =some (.cells cs t (0,0)))(i:Nat):w.cell? ⟨g,i,none⟩=cs[i]? :=cell_of_row w g i cs t (0,0) h
theorem ah{w:World}{g:Nat}{t:TypeId}{cs:Array Value}(h:w.heap[g]? =some (.cells cs t (0,0)))(i:Nat):w.frozen? ⟨g,i,none⟩=false:=by simp[World.frozen?,h]
theorem bD{w w1:World}{g:Nat}{o:Obj}{row:Option Nat}(h:w.heap[g]? =some o)(hg:w.grownBy w1 row)(hne:some g≠row):w1.heap[g]? =some o:=(hg.block g (aj h) hne).trans h
theorem Gv{w:World}{g g':Nat}{t t':TypeId}{cs cs':Array Value}(h:w.heap[g]? =some (.cells cs t (0,0)))(h':w.heap[g']? =some (.cells cs' t' (0,0)))(hne:t≠t'):g≠g':=by
 rintro rfl;rw[h]at h';injection h' with h';injection h' with _ ht;exact hne ht
section
variable {P:Program} {ops:Array Oper} {o:Oper} {a:Act} {Q:Exit->Act->World->Prop} {K:Act->World->Prop}
theorem tE{w0 W:World}(base:Nat)(hw:Region.wanted o (yielded ops a.tmps)=true)(s x:Operand)(t e:TypeId)(z:Value)(size bytes:Nat)
 (ho:o.op= .call {callee:= .builtin .append,args:=#[s,x],argTypes:=#[t,t]})
 (ht:P.underlying t=some (.slice e)) (hinfo:(P.info? e).map (fun i=>(i.zero,i.size,i.bytes))=some (some z,size,bytes)) (hz:z.cells.size=size) (hs0:0<size) (hb0:0<bytes)
 (v:Value) (n:Nat) (xs ys:List Value) (hs:a.eval s=v) (hx:a.eval x= .slice (some ⟨W.heap.size,0,none⟩) 1 1) (hys:ys.length=size) (h1: ∀u∈ys,u.oneCell'=true)
 (HO:W.ownsRow base e size v n xs) (HB:Below base w0 W) (hbase:base<=W.heap.size) (hl:(n+1)*bytes<=140737488355328)
 (h: ∀v1 w1,w1.ownsRow base e size v1 (n+1) (xs++ys)->Below base w0 w1->W.grownBy w1 v.ownBlock->(v1.ownBlock=v.ownBlock\/ ∃b,v1.ownBlock=some b/\W.heap.size<=b)->K (a.put o.dst v1) w1):
 if Region.wanted o (yielded ops a.tmps)=true then Oper.wp P o a (W.alloc (.cells ys.toArray e)) K Q else K (a.put o.dst undef) (W.alloc (.cells ys.toArray e)):=by
 obtain⟨i0,hi,hzz⟩:=Option.map_eq_some_iff.1 hinfo;simp only[Prod.mk.injEq]at hzz;obtain⟨hz0,hz1,hz2⟩:=hzz;have hlen:n+1<=140737488355328:=Nat.le_trans (Nat.le_mul_of_pos_right _ hb0) hl;rw[if_pos hw]
 obtain⟨v1,w1,hr,hown,hg,_,hat⟩:=run_append_own_at (P:=P) (W.alloc (.cells ys.toArray e)) base t o.type e i0 z size bytes ht hi hz0 hz1 hz2 hz hs0 v n xs (HO.alloc _) ⟨W.heap.size,0,none⟩ 1 1 ys (by rw[hys];simp)
  (by simpa using World.news_of_block (cs:=ys.toArray) (t:=e) (fr:=(0,0)) (heap_alloc_new W (.cells ys.toArray e))) h1 (by simp only[maxLen];omega) hl (by simp;omega)
 unfold Oper.wp execOp;simp only[ho,resolve,invoke,builtin,Sem.run_bind,Sem.run_pure,Result.andThen_ok,List.map_toArray,List.map_cons,List.map_nil,hs,hx,hr];refine h v1 w1 hown ((HB.alloc hbase _).grown hg (by simp;omega) (iN HO)) (World.grownBy.trans (World.grownBy_alloc W _ _) hg) ?_;rcases hat with hat|hat
 ·exact .inl hat
 ·exact .inr ⟨_,hat,by simp⟩
end
theorem Gw{w:World}{base base':Nat}{e:TypeId}{size n:Nat}{v:Value}{xs:List Value}(h:w.ownsRow base e size v n xs)(hb:base'<=base):w.ownsRow base' e size v n xs:=by
 obtain⟨h1,h2⟩:=h;refine⟨h1,?_⟩;rcases h2 with h2|⟨g,cap,cur,rfl,hg,r⟩
 ·exact .inl h2
 ·exact .inr ⟨g,cap,cur,rfl,Nat.le_trans hb hg,r⟩
section
variable {α:Type} {enc:α->Value} {d:α}
def encs(enc:α->Value)(xs:List α):List Value:=xs.map enc
def mh(d:α)(xs:List α)(i:Int):α:=xs.getD i.toNat d
theorem wD(xs:List α):(encs enc xs).length=xs.length:=by simp[encs]
theorem Mi(xs:List α)(j:Nat)(h:j<xs.length):(encs enc xs)[j]? =some (enc (xs.getD j d)):=by
 simp[encs,List.getElem?_eq_getElem h,List.getD_eq_getElem?_getD]
def jt(enc:α->Value)(d:α)(w:World)(A:Option Addr)(n:Nat)(xs:List α):Prop:=
 xs.length=n/\n<=9223372036854775807/\(0<n-> ∃ad,A=some ad/\ ∀j,j<n->w.cell? (ad.add j)=some (enc (xs.getD j d)))
theorem jt.at_{w:World}{A:Option Addr}{n:Nat}{xs:List α}(h:jt enc d w A n xs)(i:Int)(h0:0<=i)(h1:i<n): ∃ad,A=some ad/\w.cell? (ad.add i.toNat)=some (enc (mh d xs i)):=by
 obtain⟨ad,e,hc⟩:=h.2.2 (by omega);exact⟨ad,e,hc _ (by omega)⟩
theorem jt.Ef{w:World}{A:Option Addr}{n:Nat}{xs:List α}(h:jt enc d w A n xs)(i:Nat)(hi:i<=n):jt enc d w A i (xs.take i):=by
 refine⟨by rw[List.length_take,h.1];omega,by have:=h.2.1;omega,fun hp=>?_⟩;obtain⟨ad,e,hc⟩:=h.2.2 (by omega);refine⟨ad,e,fun j hj=>?_⟩;rw[hc j (by omega)];simp[List.getD_eq_getElem?_getD,hj]
theorem jt.WR{w:World}{A:Option Addr}{n c:Nat}{xs:List α}(h:jt enc d w A n xs)(i:Nat)(hi:i<=n)(hc:n<=c):jt enc d w (if c=i then A else A.map (·.add i)) (n-i) (xs.drop i):=by
 refine⟨by rw[List.length_drop,h.1],by have:=h.2.1;omega,fun hp=>?_⟩;obtain⟨ad,rfl,hcell⟩:=h.2.2 (by omega);rw[if_neg (by omega)];refine⟨ad.add i,rfl,fun j hj=>?_⟩
 have ha:(ad.add i).add j=ad.add (i+j):=by
  unfold Addr.add;by_cases h1:i=0<;>by_cases h2:j=0<;>simp[h1,h2,Nat.add_assoc]
 rw[ha,hcell (i+j) (by omega)];simp[List.getD_eq_getElem?_getD,List.getElem?_drop]
theorem JT{W:World}{base g n cap:Nat}{e:TypeId}{xs:List α}(h:W.ownsRow base e 1 (.slice (some ⟨g,0,none⟩) n cap) n (encs enc xs))(i:Int)(h0:0<=i)(h1:i<n):
 W.cell? ⟨g,i.toNat,none⟩=some (enc (mh d xs i))/\W.frozen? ⟨g,i.toNat,none⟩=false:=by
 have hl:xs.length=n:=by have:=h.1;simp[encs]at this;exact this
 constructor
 ·have hc:=h.cells (g:=g) rfl i.toNat _ (Mi (d:=d) xs i.toNat (by omega))
  rwa[add_plain]at hc
 ·rcases h.2 with⟨h',_⟩|⟨g',cap',cur,h',_,hh,_⟩
  ·cases h'
  ·have:g=g':=by injection h' with h';injection h' with h';injection h' with h'
   subst this;simp[World.frozen?,hh]
end
section
variable {α:Type} {P:Program} {ops:Array Oper} {rest:List Oper} {o:Oper} {a:Act} {Q:Exit->Act->World->Prop}
end
theorem bh{w:World}{g:Nat}{o:Obj}(h:w.heap[g]? =some o)(o':Obj):(w.alloc o').heap[g]? =some o:=(Below.heap_alloc w o' g (aj h)).trans h
theorem dM{w:World}{g:Nat}{o:Obj}(h:w.heap[g]? =some o):w.drew.heap[g]? =some o:=h
theorem ez{w:World}{g:Nat}{o:Obj}(h:w.heap[g]? =some o)(n:Nat):(w.drewN n).heap[g]? =some o:=h
theorem V7{w w1:World}{g:Nat}{o:Obj}(h:w.heap[g]? =some o)(hb:Below w.heap.size w w1):w1.heap[g]? =some o:=(hb.block g (aj h)).trans h
theorem Qt(w:World)(o:Obj):(w.alloc o).heap[w.heap.size]? =some o:=heap_alloc_new w o
section
variable {P:Program}
end
theorem TN{w:World}{base n m c size:Nat}{e:TypeId}{A:Option Addr}{xs:List Value}(h:w.ownsRow base e size (.slice A m c) n xs):m<=c:=by
 rcases h.2 with⟨he,_⟩|⟨g,cap,cur,he,_,_,hnc,_⟩
 ·injection he with _ h2 h3
  omega
 ·injection he with _ h2 h3
  omega
def kO{α:Type}(R:α->List Value->Prop)(e:TypeId)(size:Nat)(w:World)(base:Nat)(v:Value)(ps:List α):Prop:=
 ∃inner,w.ownsRow base e size v ps.length inner/\dU R size ps inner
section
variable {α:Type} {R R':α->List Value->Prop} {e:TypeId} {size:Nat} {w w1:World} {base:Nat} {v:Value} {ps:List α}
theorem kO.none_(R:α->List Value->Prop)(e:TypeId)(size:Nat)(w:World)(base:Nat):kO R e size w base (.slice none 0 0) []:=⟨[],Qs _ _ _ _,dU.none _ _⟩
theorem kO.lU(h:kO R e size w base v ps)(hR: ∀p c,R p c->R' p c):kO R' e size w base v ps:=by
 obtain⟨inner,ho,hr⟩:=h;exact⟨inner,ho,hr.lU hR⟩
theorem kO.reads(h:kO R e size w base v ps): ∃A c,v= .slice A ps.length c/\ps.length<=c/\eu R size w A ps.length ps:=by
 obtain⟨inner,ho,hr⟩:=h;obtain⟨A,c,rfl,hrow⟩:=Aj ho hr rfl;exact⟨A,c,rfl,TN ho,hrow⟩
theorem kO.Mj(h:kO R e size w base v ps){g:Nat}{t:TypeId}{cells:Array Value}(hb:w.heap[g]? =some (.cells cells t (0,0)))(ht:e≠t):some g≠v.ownBlock:=by
 obtain⟨inner,ho,hr⟩:=h;exact TM ho hb ht
end
section
variable {P:Program} {ops:Array Oper} {rest:List Oper} {o:Oper} {a:Act} {Q:Exit->Act->World->Prop} {α:Type} {R:α->List Value->Prop}
end
section
variable {P:Program} {ops:Array Oper} {o:Oper} {a:Act} {Q:Exit->Act->World->Prop} {K:Act->World->Prop} {α:Type} {R:α->List Value->Prop}
end
theorem eu.Gx{α:Type}{R:α->List Value->Prop}{size:Nat}{w:World}{ad:Addr}{n:Nat}{ps:List α}(h:eu R size w (some ad) n ps):
 ∃inner,dU R size ps inner/\ ∀j u,inner[j]? =some u->w.cell? (ad.add j)=some u:=by
 have key: ∀m,m<=ps.length-> ∃inner,dU R size (ps.take m) inner/\ ∀j u,inner[j]? =some u->w.cell? (ad.add j)=some u:=by
  intro m;induction m with
  |zero=>exact fun _=>⟨[],dU.none _ _,fun j u hu=>by simp at hu⟩
  |succ m ih=>
   intro hm;obtain⟨inner,hr,hc⟩:=ih (by omega);obtain⟨ad',he,hcell⟩:=h.2.2 (by have:=h.1;omega);injection he with he;subst he;obtain⟨c,lJ,hp,hcc⟩:=hcell m _ (List.getElem?_eq_getElem (show m<ps.length by omega));refine⟨inner++c,?_,fun j u hu=>?_⟩
   ·rw[List.take_succ_eq_append_getElem (show m<ps.length by omega)]
    exact hr.snoc hp lJ
   ·have hil:inner.length=m*size:=by rw[hr.1,List.length_take,Nat.min_eq_left (by omega)]
    rcases Nat.lt_or_ge j inner.length with hj|hj
    ·rw[List.getElem?_append_left hj]at hu
     exact hc j u hu
    ·rw[List.getElem?_append_right hj]at hu
     have:=hcc (j-inner.length) u hu
     rwa[hil,Nat.add_sub_cancel' (by omega)]at this
 obtain⟨inner,hr,hc⟩:=key ps.length (Nat.le_refl _);rw[List.take_length]at hr;exact⟨inner,hr,hc⟩
section
variable {α:Type} {P:Program}
theorem Cs(enc:α->Value)(d:α)(t e:TypeId)(kl kh:IntKind){i:TypeInfo}(ht:P.underlying t=some (.slice e))(hi:P.info? e=some i)(hsz:i.size=1)(A:Option Addr)(c:Nat)(xs:List α)(a b:Int)(h0:0<=a)(h1:a<=b)(hm:b<=xs.length)(hc:xs.length<=c):
 ∃A':Option Addr,(∀W:World,(Instr.slice t (.slice A xs.length c) (some (.int kl a)) (some (.int kh b)) none).run P W= .ok (.slice A' ((xs.take b.toNat).drop a.toNat).length (c-a.toNat)) W)/\
  (∀w:World,jt enc d w A xs.length xs->jt enc d w A' ((xs.take b.toNat).drop a.toNat).length ((xs.take b.toNat).drop a.toNat))/\((xs.take b.toNat).drop a.toNat).length<=c-a.toNat:=by
 have bI:(xs.take b.toNat).length=b.toNat:=by rw[List.length_take];omega
 have hl:((xs.take b.toNat).drop a.toNat).length=b.toNat-a.toNat:=by rw[List.length_drop,bI]
 refine⟨if c=a.toNat then A else A.map (·.add a.toNat),fun W=>?_,fun w h=>?_,by rw[hl];omega⟩
 ·have hel:P.elem t=e:=by simp[Program.elem,ht]
  have hu:P.underlying t=some (.slice (P.elem t)):=by rw[hel];exact ht
  rw[run_slice_lh W t A xs.length c hu kl kh a b h0 h1 (by omega),hel,hl];simp[sizeOf,typeInfo,hi,hsz,sliced,Result.andThen]
 ·have h2:=(h.Ef b.toNat (by omega)).WR (c:=c) a.toNat (by omega) (by omega)
  rw[hl];exact h2
end
section
variable {P:Program} {ops:Array Oper} {rest:List Oper} {o:Oper} {a:Act} {Q:Exit->Act->World->Prop}
end
structure Kd(α:Type) where
 sz:Nat
 E:List Nat
 K:World->α->List Value->Prop
 M:World->Nat->(Nat->Prop)->α->List Value->Prop
 mg: ∀ {w x cs},K w x cs->cs.length=sz
 kJ: ∀ {w x cs},K w x cs-> ∀u∈cs,u.oneCell'=true
 dJ: ∀ {w w1:World} {x cs},Below w.heap.size w w1->K w x cs->K w1 x cs
 iu: ∀ {w base ok x cs},M w base ok x cs->K w x cs
 fV: ∀ {w base ok ok' x cs},(∀k,ok k->ok' k)->M w base ok x cs->M w base ok' x cs
 gF: ∀ {w:World} {base ok x cs},M w base ok x cs->M w base (fun k=>ok k/\base<=k/\k<w.heap.size/\ ∃q,q∈E/\ ∃cells,w.heap[k]? =some (.cells cells q (0,0))) x cs
 jx: ∀ {w w1:World} {base ok x cs},(∀k,ok k->w1.heap[k]? =w.heap[k]?)->M w base ok x cs->M w1 base ok x cs
 mj: ∀ {w base base' ok x cs},base'<=base->M w base ok x cs->M w base' ok x cs
theorem mR{w w1:World}{base:Nat}{e:TypeId}{size n:Nat}{v:Value}{xs:List Value}(h:w.ownsRow base e size v n xs)(hm: ∀k,v.ownBlock=some k->w1.heap[k]? =w.heap[k]?):w1.ownsRow base e size v n xs:=by
 obtain⟨h1,h2⟩:=h;refine⟨h1,?_⟩;rcases h2 with h2|⟨g,cap,cur,rfl,hg,hh,r⟩
 ·exact .inl h2
 ·exact .inr ⟨g,cap,cur,rfl,hg,(hm g (by simp[Value.ownBlock])).trans hh,r⟩
theorem rJ{w:World}{base:Nat}{e:TypeId}{size n:Nat}{v:Value}{xs:List Value}(h:w.ownsRow base e size v n xs)(k:Nat)(hk:v.ownBlock=some k): ∃cells,w.heap[k]? =some (.cells cells e (0,0)):=by
 rcases h.2 with⟨rfl,_⟩|⟨g,cap,cur,rfl,hg,hh,r⟩
 ·simp[Value.ownBlock]at hk
 ·have:g=k:=by simpa[Value.ownBlock]using hk
  subst this;exact⟨cur,hh⟩
namespace Kd
def C{α:Type}(d:Kd α)(w:World)(A:Option Addr)(n:Nat)(xs:List α):Prop:=eu (d.K w) d.sz w A n xs
def R{α:Type}(d:Kd α)(e:Nat)(w:World)(base:Nat)(ok:Nat->Prop)(v:Value)(xs:List α):Prop:=
 (∀k,v.ownBlock=some k->ok k)/\kO (d.M w base (fun k=>ok k/\some k≠v.ownBlock)) e d.sz w base v xs
section
variable {α:Type} {d:Kd α} {e:Nat} {w w1:World} {base:Nat} {ok ok':Nat->Prop} {v:Value} {xs:List α}
theorem bJ{A:Option Addr}{n:Nat}(h:d.C w A n xs)(hb:Below w.heap.size w w1):d.C w1 A n xs:=eu.lU h hb (fun _ _ hp=>d.dJ hb hp)
theorem fS(d:Kd α)(e:Nat)(w:World)(base:Nat)(ok:Nat->Prop):d.R e w base ok (.slice none 0 0) []:=⟨fun k hk=>by simp[Value.ownBlock]at hk,kO.none_ _ _ _ _ _⟩
theorem bQ(h:d.R e w base ok v xs)(hok: ∀k,ok k->ok' k):d.R e w base ok' v xs:=⟨fun k hk=>hok k (h.1 k hk),h.2.lU (fun _ _ hp=>d.fV (fun k hk=>⟨hok k hk.1,hk.2⟩) hp)⟩
theorem fW(h:d.R e w base ok v xs):d.R e w base (fun k=>ok k/\base<=k/\k<w.heap.size/\ ∃q,q∈e::d.E/\ ∃cells,w.heap[k]? =some (.cells cells q (0,0))) v xs:=by
 obtain⟨h0,inner,ho,hr⟩:=h;refine⟨fun k hk=>?_,inner,ho,hr.lU (fun _ _ hp=>d.fV (fun k hk=>?_) (d.gF hp))⟩
 ·obtain⟨cells,hc⟩:=rJ ho k hk
  exact⟨h0 k hk,iN ho k hk,iC ho k hk,e,List.mem_cons_self,cells,hc⟩
 ·obtain⟨⟨h1,h2⟩,h3,h4,q,hq,hc⟩:=hk
  exact⟨⟨h1,h3,h4,q,List.mem_cons_of_mem _ hq,hc⟩,h2⟩
theorem jN(h:d.R e w base ok v xs)(hm: ∀k,ok k->w1.heap[k]? =w.heap[k]?):d.R e w1 base ok v xs:=by
 obtain⟨h0,inner,ho,hr⟩:=h;exact⟨h0,inner,mR ho (fun k hk=>hm k (h0 k hk)),hr.lU (fun _ _ hp=>d.jx (fun k hk=>hm k hk.1) hp)⟩
theorem eH{base':Nat}(h:d.R e w base ok v xs)(hb:base'<=base):d.R e w base' ok v xs:=by
 obtain⟨h0,inner,ho,hr⟩:=h;exact⟨h0,inner,Gw ho hb,hr.lU (fun _ _ hp=>d.mj hb hp)⟩
theorem oM(h:d.R e w base ok v xs)(hm: ∀k,ok k->k<w.heap.size->w1.heap[k]? =w.heap[k]?):d.R e w1 base ok v xs:=
 bQ (jN (fW h) (fun k hk=>hm k hk.1 hk.2.2.1)) (fun _ hk=>hk.1)
theorem Mk{x:α}{cs:List Value}(h:d.M w base ok x cs)(hm: ∀k,ok k->k<w.heap.size->w1.heap[k]? =w.heap[k]?):d.M w1 base ok x cs:=
 d.fV (fun _ hk=>hk.1) (d.jx (fun k hk=>hm k hk.1 hk.2.2.1) (d.gF h))
theorem cM(h:d.R e w base ok v xs)(hb:Below w.heap.size w w1):d.R e w1 base ok v xs:=oM h (fun k _ hk=>hb.block k hk)
theorem II{x:α}{cs:List Value}(h:d.M w base ok x cs)(hb:Below w.heap.size w w1):d.M w1 base ok x cs:=Mk h (fun k _ hk=>hb.block k hk)
theorem Ct(h:d.R e w base ok v xs){row:Option Nat}(hg:w.grownBy w1 row)(hok: ∀k,ok k->some k≠row):d.R e w1 base ok v xs:=oM h (fun k ho hk=>hg.block k hk (hok k ho))
theorem dr(h:d.R e w base ok v xs){p:Addr}(hok: ∀k,ok k->k≠p.block)(u:Value):d.R e (w.setCell p u) base ok v xs:=oM h (fun k ho _=>Below.heap_setCell w p u k (hok k ho))
theorem Qu{x:α}{cs:List Value}(h:d.M w base ok x cs){g t:Nat}{cells:Array Value}(hb:w.heap[g]? =some (.cells cells t (0,0)))(ht: ∀q,q∈d.E->q≠t):d.M w base (fun k=>ok k/\k≠g) x cs:=
 d.fV (fun k hk=>⟨hk.1,by
  obtain⟨_,_,_,q,hq,cells',hc⟩:=hk;rintro rfl;rw[hc]at hb;injection hb with hb;injection hb with _ hb;exact ht q hq hb⟩) (d.gF h)
theorem Cu(h:d.R e w base ok v xs): ∃A c,v= .slice A xs.length c/\xs.length<=c/\d.C w A xs.length xs:=by
 obtain⟨A,c,he,hl,hr⟩:=kO.reads h.2;exact⟨A,c,he,hl,hr.lU (Below.refl _ _) (fun _ _ hp=>d.iu hp)⟩
theorem ai(h:d.R e w base ok v xs): ∃A c,v= .slice A xs.length c:=by
 obtain⟨A,c,he,_⟩:=Cu h;exact⟨A,c,he⟩
theorem Eg(h:d.R e w base ok v xs): ∃inner,w.ownsRow base e d.sz v xs.length inner:=by
 obtain⟨_,inner,ho,_⟩:=h;exact⟨inner,ho⟩
theorem kr(h:d.R e w base ok v xs){g t:Nat}{cells:Array Value}(hb:w.heap[g]? =some (.cells cells t (0,0)))(ht:e≠t):some g≠v.ownBlock:=kO.Mj h.2 hb ht
end
def scalar{α:Type}(enc:α->Value)(h1: ∀x,(enc x).oneCell'=true):Kd α where
 sz:=1
 E:= []
 K:=fun _ x cs=>cs= [enc x]
 M:=fun _ _ _ x cs=>cs= [enc x]
 mg:=fun h=>by rw[h];rfl
 kJ:=fun h u hu=>by
  rw[h]at hu;rw[List.mem_singleton.1 hu];exact h1 _
 dJ:=fun _ h=>h
 iu:=fun h=>h
 fV:=fun _ h=>h
 gF:=fun h=>h
 jx:=fun _ h=>h
 mj:=fun _ h=>h
def int(k:IntKind):Kd Int:=scalar (Value.int k) (fun _=>rfl)
def bool:Kd Bool:=scalar Value.bool (fun _=>rfl)
def string:Kd ByteArray:=scalar Value.string (fun _=>rfl)
def slice{α:Type}(e:Nat)(d:Kd α):Kd (List α) where
 sz:=1
 E:=e::d.E
 K:=fun w xs cs=> ∃A c,cs= [.slice A xs.length c]/\xs.length<=c/\d.C w A xs.length xs
 M:=fun w base ok xs cs=> ∃v,cs= [v]/\d.R e w base ok v xs
 mg:=by
  rintro w x cs⟨A,c,rfl,_⟩;rfl
 kJ:=by
  rintro w x cs⟨A,c,rfl,_⟩u hu;rw[List.mem_singleton.1 hu];rfl
 dJ:=by
  rintro w w1 x cs hb⟨A,c,rfl,hl,hr⟩;exact⟨A,c,rfl,hl,bJ hr hb⟩
 iu:=by
  rintro w base ok x cs⟨v,rfl,h⟩;obtain⟨A,c,rfl,hl,hr⟩:=Cu h;exact⟨A,c,rfl,hl,hr⟩
 fV:=by
  rintro w base ok ok' x cs hok⟨v,rfl,h⟩;exact⟨v,rfl,bQ h hok⟩
 gF:=by
  rintro w base ok x cs⟨v,rfl,h⟩;exact⟨v,rfl,fW h⟩
 jx:=by
  rintro w w1 base ok x cs hm⟨v,rfl,h⟩;exact⟨v,rfl,jN h hm⟩
 mj:=by
  rintro w base base' ok x cs hb⟨v,rfl,h⟩;exact⟨v,rfl,eH h hb⟩
def pair{α β:Type}(a:Kd α)(b:Kd β):Kd (α×β) where
 sz:=a.sz+b.sz
 E:=a.E++b.E
 K:=fun w x cs=> ∃c0 c1,cs=c0++c1/\a.K w x.1 c0/\b.K w x.2 c1
 M:=fun w base ok x cs=> ∃c0 c1,cs=c0++c1/\a.M w base ok x.1 c0/\b.M w base ok x.2 c1
 mg:=by
  rintro w x cs⟨c0,c1,rfl,h0,h1⟩;rw[List.length_append,a.mg h0,b.mg h1]
 kJ:=by
  rintro w x cs⟨c0,c1,rfl,h0,h1⟩u hu;rcases List.mem_append.1 hu with hu|hu
  ·exact a.kJ h0 u hu
  ·exact b.kJ h1 u hu
 dJ:=by
  rintro w w1 x cs hb⟨c0,c1,rfl,h0,h1⟩;exact⟨c0,c1,rfl,a.dJ hb h0,b.dJ hb h1⟩
 iu:=by
  rintro w base ok x cs⟨c0,c1,rfl,h0,h1⟩;exact⟨c0,c1,rfl,a.iu h0,b.iu h1⟩
 fV:=by
  rintro w base ok ok' x cs hok⟨c0,c1,rfl,h0,h1⟩;exact⟨c0,c1,rfl,a.fV hok h0,b.fV hok h1⟩
 gF:=by
  rintro w base ok x cs⟨c0,c1,rfl,h0,h1⟩;refine⟨c0,c1,rfl,a.fV ?_ (a.gF h0),b.fV ?_ (b.gF h1)⟩
  ·rintro k⟨h2,h3,h4,q,hq,hc⟩
   exact⟨h2,h3,h4,q,List.mem_append_left _ hq,hc⟩
  ·rintro k⟨h2,h3,h4,q,hq,hc⟩
   exact⟨h2,h3,h4,q,List.mem_append_right _ hq,hc⟩
 jx:=by
  rintro w w1 base ok x cs hm⟨c0,c1,rfl,h0,h1⟩;exact⟨c0,c1,rfl,a.jx hm h0,b.jx hm h1⟩
 mj:=by
  rintro w base base' ok x cs hb⟨c0,c1,rfl,h0,h1⟩;exact⟨c0,c1,rfl,a.mj hb h0,b.mj hb h1⟩
def Gy{α β:Type}(d:Kd α)(f:β->α):Kd β where
 sz:=d.sz
 E:=d.E
 K:=fun w x cs=>d.K w (f x) cs
 M:=fun w base ok x cs=>d.M w base ok (f x) cs
 mg:=d.mg
 kJ:=d.kJ
 dJ:=d.dJ
 iu:=d.iu
 fV:=d.fV
 gF:=d.gF
 jx:=d.jx
 mj:=d.mj
theorem og{α:Type}{d:Kd α}{w:World}{A:Option Addr}{n:Nat}{xs:List α}(h:d.C w A n xs)(z:α)(i:Int)(h0:0<=i)(h1:i<n):
 ∃ad c,A=some ad/\c.length=d.sz/\d.K w (xs.getD i.toNat z) c/\ ∀j u,c[j]? =some u->w.cell? (ad.add (i.toNat*d.sz+j))=some u:=eu.abt h z i h0 h1
theorem yo{α:Type}{d:Kd α}{e base:Nat}{ok kK:Nat->Prop}{W w1:World}{v v1:Value}{xs:List α}{p:α}{inner cs:List Value}(h0: ∀k,v.ownBlock=some k->ok k)(hr:dU (d.M W base (fun k=>ok k/\some k≠v.ownBlock)) d.sz xs inner)(hp:d.M W base kK p cs)(kP: ∀k,kK k->ok k/\some k≠v.ownBlock)(gB: ∀k,W.heap.size<=k->ok k)
 (hown:w1.ownsRow base e d.sz v1 (xs.length+1) (inner++cs)) (hg:W.grownBy w1 v.ownBlock) (hat:v1.ownBlock=v.ownBlock\/ ∃b,v1.ownBlock=some b/\W.heap.size<=b):d.R e w1 base ok v1 (xs++ [p]):=by
 have hne: ∀k,some k≠v.ownBlock->k<W.heap.size->some k≠v1.ownBlock:=by
  intro k hk bI;rcases hat with hat|⟨b,hb,hle⟩
  ·rw[hat];exact hk
  ·rw[hb]
   intro he;injection he with he;omega
 have step: ∀ {q:α} {c:List Value} {o:Nat->Prop},d.M W base o q c->(∀k,o k->ok k/\some k≠v.ownBlock)->d.M w1 base (fun k=>ok k/\some k≠v1.ownBlock) q c:=by
  intro q c o hq ho;have h1:=d.jx (w1:=w1) (fun k hk=>hg.block k hk.2.2.1 (ho k hk.1).2) (d.gF hq);exact d.fV (fun k hk=>⟨(ho k hk.1).1,hne k (ho k hk.1).2 hk.2.2.1⟩) h1
 refine⟨fun k hk=>?_,inner++cs,by rw[List.length_append,List.length_singleton];exact hown,?_⟩
 ·rcases hat with hat|⟨b,hb,hle⟩
  ·exact h0 k (hat▸hk)
  ·rw[hb]at hk
   injection hk with hk;exact gB k (by omega)
 ·exact(hr.lU (fun _ _ hq=>step hq (fun _ hk=>hk))).snoc (step hp kP) (d.mg (d.iu hp))
section
variable {P:Program} {ops:Array Oper} {rest:List Oper} {o:Oper} {a:Act} {Q:Exit->Act->World->Prop} {α:Type}
theorem fc(d:Kd α){w0 W:World}(base:Nat)(hgd:o.guard=none)(s x:Operand)(t e:TypeId)(z:Value)(bytes:Nat)
 (ho:o.op= .call {callee:= .builtin .append,args:=#[s,x],argTypes:=#[t,t]})
 (ht:P.underlying t=some (.slice e)) (hinfo:(P.info? e).map (fun i=>(i.zero,i.size,i.bytes))=some (some z,d.sz,bytes)) (hz:z.cells.size=d.sz) (hs0:0<d.sz) (hb0:0<bytes)
 (v:Value) (xs:List α) (p:α) (cs:List Value) (ok kK:Nat->Prop) (hs:a.eval s=v) (hx:a.eval x= .slice (some ⟨W.heap.size,0,none⟩) 1 1) (hp:d.M W base kK p cs) (kP: ∀k,kK k->ok k/\some k≠v.ownBlock) (gB: ∀k,W.heap.size<=k->ok k)
 (HO:d.R e W base ok v xs) (HB:Below base w0 W) (hbase:base<=W.heap.size) (hl:(xs.length+1)*bytes<=140737488355328)
 (h: ∀v1 w1,d.R e w1 base ok v1 (xs++ [p])->Below base w0 w1->W.grownBy w1 v.ownBlock->(v1.ownBlock=v.ownBlock\/ ∃b,v1.ownBlock=some b/\W.heap.size<=b)->wpList P ops Q rest (a.put o.dst v1) w1):
 wpList P ops Q (o::rest) a (W.alloc (.cells cs.toArray e)):=by
 obtain⟨h0,inner,hown,hr⟩:=HO;refine sG base hgd s x t e z d.sz bytes ho ht hinfo hz hs0 hb0 v xs.length inner cs hs hx (d.mg (d.iu hp)) (d.kJ (d.iu hp)) hown HB hbase hl ?_;intro v1 w1 hown1 hb1 hg1 Ml;exact h v1 w1 (yo h0 hr hp kP gB hown1 hg1 Ml) hb1 hg1 Ml
end
section
variable {P:Program} {ops:Array Oper} {o:Oper} {a:Act} {Q:Exit->Act->World->Prop} {Kc:Act->World->Prop} {α:Type}
theorem gP(d:Kd α){w0 W:World}(base:Nat)(hw:Region.wanted o (yielded ops a.tmps)=true)(s x:Operand)(t e:TypeId)(z:Value)(bytes:Nat)
 (ho:o.op= .call {callee:= .builtin .append,args:=#[s,x],argTypes:=#[t,t]})
 (ht:P.underlying t=some (.slice e)) (hinfo:(P.info? e).map (fun i=>(i.zero,i.size,i.bytes))=some (some z,d.sz,bytes)) (hz:z.cells.size=d.sz) (hs0:0<d.sz) (hb0:0<bytes)
 (v:Value) (xs:List α) (p:α) (cs:List Value) (ok kK:Nat->Prop) (hs:a.eval s=v) (hx:a.eval x= .slice (some ⟨W.heap.size,0,none⟩) 1 1) (hp:d.M W base kK p cs) (kP: ∀k,kK k->ok k/\some k≠v.ownBlock) (gB: ∀k,W.heap.size<=k->ok k)
 (HO:d.R e W base ok v xs) (HB:Below base w0 W) (hbase:base<=W.heap.size) (hl:(xs.length+1)*bytes<=140737488355328)
 (h: ∀v1 w1,d.R e w1 base ok v1 (xs++ [p])->Below base w0 w1->W.grownBy w1 v.ownBlock->(v1.ownBlock=v.ownBlock\/ ∃b,v1.ownBlock=some b/\W.heap.size<=b)->Kc (a.put o.dst v1) w1):
 if Region.wanted o (yielded ops a.tmps)=true then Oper.wp P o a (W.alloc (.cells cs.toArray e)) Kc Q else Kc (a.put o.dst undef) (W.alloc (.cells cs.toArray e)):=by
 obtain⟨h0,inner,hown,hr⟩:=HO;refine tE base hw s x t e z d.sz bytes ho ht hinfo hz hs0 hb0 v xs.length inner cs hs hx (d.mg (d.iu hp)) (d.kJ (d.iu hp)) hown HB hbase hl ?_;intro v1 w1 hown1 hb1 hg1 Ml;exact h v1 w1 (yo h0 hr hp kP gB hown1 hg1 Ml) hb1 hg1 Ml
end
theorem wE{α:Type}{enc:α->Value}(xs:List α):dU (fun(x:α) (cs:List Value)=>cs= [enc x]) 1 xs (encs enc xs):=by
 refine⟨by simp[encs],fun j p hj=>?_⟩;obtain⟨hl,hp⟩:=List.getElem?_eq_some_iff.1 hj;have hl':j<(encs enc xs).length:=by rw[wD];exact hl
 rw[Nat.mul_one,List.drop_eq_getElem_cons hl'];simp[encs,hp]
theorem Eh{α:Type}{enc:α->Value}{h1: ∀x,(enc x).oneCell'=true}{e:Nat}{w:World}{base:Nat}{ok:Nat->Prop}{v:Value}{xs:List α}(ho:w.ownsRow base e 1 v xs.length (encs enc xs))(hok: ∀k,v.ownBlock=some k->ok k):(scalar enc h1).R e w base ok v xs:=⟨hok,encs enc xs,ho,wE xs⟩
theorem Mm{α:Type}{enc:α->Value}{h1: ∀x,(enc x).oneCell'=true}{e:Nat}{w:World}{base:Nat}{ok:Nat->Prop}{v:Value}{xs:List α}(h:(scalar enc h1).R e w base ok v xs):w.ownsRow base e 1 v xs.length (encs enc xs):=by
 obtain⟨_,inner,ho,hr⟩:=h
 have:inner=encs enc xs:=by
  apply List.ext_getElem?;intro j;rcases Nat.lt_or_ge j xs.length with hj|hj
  ·have h2:=hr.2 j _ (List.getElem?_eq_getElem hj)
   have hl:j<inner.length:=by have:=hr.1;simp[scalar]at this;omega
   have h3:(inner.drop (j*1)).take 1= [enc xs[j]]:=h2;rw[Nat.mul_one,List.drop_eq_getElem_cons hl]at h3
   have h4:inner[j]=enc xs[j]:=by
    have h5:=congrArg List.head? h3;rw[List.take_succ_cons]at h5;exact Option.some.inj h5
   rw[List.getElem?_eq_getElem hl,h4];simp[encs,List.getElem?_eq_getElem hj]
  ·have h3:inner.length=xs.length:=by have:=hr.1;simp[scalar]at this;omega
   rw[List.getElem?_eq_none (by omega),List.getElem?_eq_none (by rw[wD];omega)]
 rw[<-this];exact ho
theorem kQ{α:Type}{enc:α->Value}{d:α}{h1: ∀x,(enc x).oneCell'=true}{w:World}{A:Option Addr}{n:Nat}{xs:List α}(h:jt enc d w A n xs):(scalar enc h1).C w A n xs:=by
 refine⟨h.1,h.2.1,fun hn=>?_⟩;obtain⟨ad,e,hc⟩:=h.2.2 hn;refine⟨ad,e,fun j p hj=>⟨[enc p],rfl,rfl,fun i u hu=>?_⟩⟩;obtain⟨hl,hp⟩:=List.getElem?_eq_some_iff.1 hj;have h2:=hc j (by have:=h.1;omega);rw[List.getD_eq_getElem?_getD,hj]at h2;cases i with
 |zero=>
  have:enc p=u:=by simpa using hu
  subst this;simpa[scalar]using h2
 |succ i=>simp at hu
theorem oN{α:Type}{enc:α->Value}{d:α}{h1: ∀x,(enc x).oneCell'=true}{w:World}{A:Option Addr}{n:Nat}{xs:List α}(h:(scalar enc h1).C w A n xs):jt enc d w A n xs:=by
 refine⟨h.1,h.2.1,fun hn=>?_⟩;obtain⟨ad,e,hc⟩:=h.2.2 hn;refine⟨ad,e,fun j hj=>?_⟩;have hl:j<xs.length:=by have:=h.1;omega
 obtain⟨c,_,hK,hcell⟩:=hc j _ (List.getElem?_eq_getElem hl);have hK':c= [enc xs[j]]:=hK;subst hK';have:=hcell 0 _ rfl;simpa[scalar,List.getD_eq_getElem?_getD,List.getElem?_eq_getElem hl]using this
end Kd
namespace Kd
section
end
end Kd
namespace Kd
theorem mm{α:Type}{d:Kd α}{e base:Nat}{ok:Nat->Prop}{W w1:World}{u v v1:Value}{xs:List α}(h:d.R e W base (fun k=>ok k/\some k≠v.ownBlock) u xs)(hg:W.grownBy w1 v.ownBlock)(hat:v1.ownBlock=v.ownBlock\/ ∃b,v1.ownBlock=some b/\W.heap.size<=b):d.R e w1 base (fun k=>ok k/\some k≠v1.ownBlock) u xs:=by
 refine bQ (jN (fW h) (fun k hk=>hg.block k hk.2.2.1 hk.1.2)) (fun k hk=>⟨hk.1.1,?_⟩);rcases hat with hat|⟨b,hb,hle⟩
 ·rw[hat];exact hk.1.2
 ·rw[hb]
  intro he;injection he with he;have:=hk.2.2.1;omega
end Kd
namespace Kd
section
variable {α β:Type} {d:Kd α} {d':Kd β} {e e':Nat} {w w1 W:World} {base b b':Nat} {ok ok' okv oku:Nat->Prop} {v u:Value} {xs:List α} {ys:List β}
theorem aZ(h:d.R e w base ok v xs)(o:Obj):d.R e (w.alloc o) base ok v xs:=cM h (af (Below.refl _ _) o)
theorem fu(h:d.R e w base ok v xs):d.R e w.drew base ok v xs:=cM h (aX (Below.refl _ _))
theorem bU(h:d.R e w base ok v xs)(m:Nat):d.R e (w.drewN m) base ok v xs:=cM h (aq (Below.refl _ _) m)
theorem aS{A:Option Addr}{n:Nat}(h:d.C w A n xs)(o:Obj):d.C (w.alloc o) A n xs:=bJ h (af (Below.refl _ _) o)
theorem eL{A:Option Addr}{n:Nat}(h:d.C w A n xs):d.C w.drew A n xs:=bJ h (aX (Below.refl _ _))
theorem iw(d:Kd α)(w:World):d.C w none ([]:List α).length []:=⟨rfl,by simp,fun h=>absurd h (Nat.lt_irrefl 0)⟩
theorem qy{A:Option Addr}{n:Nat}(h:d.C w A n xs):n<=9223372036854775807:=h.2.1
theorem bA{A:Option Addr}{n c:Nat}(h:d.R e w base ok (.slice A n c) xs):n=xs.length/\n<=c/\d.C w A xs.length xs:=by
 obtain⟨A',c',he,hl,hr⟩:=Cu h;injection he with h1 h2 h3;subst h1;exact⟨h2,by omega,hr⟩
theorem gY(h:d.R e w base ok v xs): ∀k,v.ownBlock=some k->k<w.heap.size:=by
 obtain⟨inner,ho⟩:=Eg h;exact iC ho
theorem iW(h:d.R e w base ok v xs): ∀k,v.ownBlock=some k->base<=k:=by
 obtain⟨inner,ho⟩:=Eg h;exact iN ho
theorem uX(h:d.R e w base ok v xs){g:Nat}(hok: ∀k,ok k->k≠g):some g≠v.ownBlock:=fun e=>hok g (h.1 g e.symm) rfl
theorem qz(h:d.R e w base ok v xs)(hp:0<xs.length): ∃g cap,v= .slice (some ⟨g,0,none⟩) xs.length cap/\base<=g/\g<w.heap.size/\ ∃cells,w.heap[g]? =some (.cells cells e (0,0)):=by
 obtain⟨inner,ho⟩:=Eg h;obtain⟨g,cap,he,hb,hl⟩:=ho.form hp;obtain⟨cells,hc⟩:=rJ ho g (by rw[he];simp[Value.ownBlock]);exact⟨g,cap,he,hb,hl,cells,hc⟩
end
section
variable {w W:World} {A:Option Addr} {n:Nat}
theorem fQ{k:IntKind}{xs:List Int}(h:(Kd.int k).C w A n xs)(i:Int)(h0:0<=i)(h1:i<n): ∃ad,A=some ad/\w.cell? (ad.add i.toNat)=some (.int k (rd xs i)):=
 jt.at_ (oN (enc:=Value.int k) (d:=(0:Int)) (h1:=fun _=>rfl) h) i h0 h1
variable {α:Type} {enc:α->Value} {h1: ∀x,(enc x).oneCell'=true} {e base g cap:Nat} {ok:Nat->Prop} {xs:List α}
theorem Gz(d:α)(h:(scalar enc h1).R e W base ok (.slice (some ⟨g,0,none⟩) xs.length cap) xs)(i:Int)(h0:0<=i)(hi:i<xs.length):W.cell? ⟨g,i.toNat,none⟩=some (enc (mh d xs i))/\W.frozen? ⟨g,i.toNat,none⟩=false:=JT (Mm h) i h0 hi
end
section
variable {P:Program} {ops:Array Oper} {rest:List Oper} {o:Oper} {a:Act} {Q:Exit->Act->World->Prop}
theorem Bo{W w1:World}{v:Value}(hgd:o.guard=none)(hrun:(execOp a.eval o).run P W= .ok (.value v) w1)(h:wpList P ops Q rest (a.put o.dst v) w1):wpList P ops Q (o::rest) a W:=by
 refine wpList_plain hgd fun K hK=>?_
 unfold Oper.wp;rw[hrun];exact hK _ _ h
variable {α:Type}
theorem WS(d:Kd α){w0 W:World}(base e:Nat)(hgd:o.guard=none){N:Tmp}(_hd:o.dst=some N){xs:List α}{inner:List Value}{ok kK:Nat->Prop}
 (hrun:(execOp a.eval o).run P W= .ok (.value (.slice (some ⟨W.heap.size,0,none⟩) xs.length xs.length)) (W.alloc (.cells inner.toArray e)))
 (Mn:dU (d.M W base kK) d.sz xs inner) (hok: ∀k,kK k->ok k) (gB:ok W.heap.size) (HB:Below base w0 W) (hbase:base<=W.heap.size) (hm:xs.length<=9223372036854775807)
 (h: ∀v1 w1,d.R e w1 base ok v1 xs->Below base w0 w1->W.grownBy w1 none->(∃b,v1.ownBlock=some b/\W.heap.size<=b)->wpList P ops Q rest (a.put o.dst v1) w1):wpList P ops Q (o::rest) a W:=by
 refine Bo hgd hrun (h _ _ ⟨fun k hk=>?_,inner,?_,?_⟩ (HB.alloc hbase _) (World.grownBy_alloc W _ none) ⟨W.heap.size,by simp[Value.ownBlock],Nat.le_refl _⟩)
 ·have:W.heap.size=k:=by simpa[Value.ownBlock]using hk
  subst this;exact gB
 ·have h2:=World.ownsRow_lit (base:=base) (e:=e) (size:=d.sz) W inner.toArray xs.length hbase (by simpa[maxLen]using hm) (by simpa using Mn.1)
  simpa using h2
 ·refine Mn.lU (fun p c hp=>d.fV (fun k hk=>⟨hok k hk.1,fun he=>?_⟩) (II (d.gF hp) (af (Below.refl _ _) _)))
  have h3:k=W.heap.size:=by simpa[Value.ownBlock]using he
  have:=hk.2.2.1;omega
theorem JU{α:Type}{R:α->List Value->Prop}{z:Value}{size:Nat}{z0:α}(hz:z.cells.size=size)(hs:0<size)(h0:R z0 z.cells.toList)(m:Nat):dU R size (List.replicate m z0) (madeCells z.cells (m*size)).toList:=by
 refine⟨by simp[size_madeCells],fun j p hj=>?_⟩;obtain⟨hjl,hp⟩:=List.getElem?_eq_some_iff.1 hj;have hjm:j<m:=by simpa using hjl
 have hp':z0=p:=by simpa using hp
 subst hp';have hle:j*size+size<=m*size:=by rw[<-Nat.succ_mul];exact Nat.mul_le_mul_right _ hjm
 have:((madeCells z.cells (m*size)).toList.drop (j*size)).take size=z.cells.toList:=by
  apply List.ext_getElem
  ·simp[size_madeCells,hz]
   omega
  ·intro i h1 h2
   have hi:i<size:=by rw[Array.length_toList,hz]at h2;exact h2
   have hmod:(j*size+i)%size=i:=by
    rw[Nat.mul_comm,Nat.mul_add_mod];exact Nat.mod_eq_of_lt hi
   simp[madeCells,hz,hmod];rw[getElem!_pos z.cells i (by omega)]
 rw[this];exact h0
end
end Kd
theorem Mo{w:World}{base n m c size:Nat}{e:TypeId}{A:Option Addr}{xs:List Value}(h:w.ownsRow base e size (.slice A n c) n xs)(hm:m<=n):w.ownsRow base e size (.slice A m c) m (xs.take (m*size)):=by
 obtain⟨h1,h2⟩:=h;refine⟨by rw[List.length_take,h1];exact Nat.min_eq_left (Nat.mul_le_mul_right _ hm),?_⟩;rcases h2 with⟨he,h0⟩|⟨g,cap,cur,he,hb,hh,hnc,hcm,hcs,ht⟩
 ·injection he with ha _ hc
  subst ha;subst hc;exact .inl ⟨by rw[show m=0 by omega],by omega⟩
 ·injection he with ha _ hc
  subst ha;subst hc;refine .inr ⟨g,c,cur,rfl,hb,hh,by omega,hcm,hcs,?_⟩;rw[<-ht,List.take_take,Nat.min_eq_left (Nat.mul_le_mul_right _ hm)]
section
variable {P:Program}
theorem TP(t e:TypeId)(kh:IntKind){i:TypeInfo}(ht:P.underlying t=some (.slice e))(hi:P.info? e=some i)(A:Option Addr)(n c:Nat)(j:Int)(h0:0<=j)(hm:j<=n)(hc:n<=c):
 ∀W:World,(Instr.slice t (.slice A n c) none (some (.int kh j)) none).run P W= .ok (.slice A j.toNat c) W:=by
 intro W;have hel:P.elem t=e:=by simp[Program.elem,ht]
 have hu:P.underlying t=some (.slice (P.elem t)):=by rw[hel];exact ht
 have ha:(A.map fun x=>x.add 0)=A:=by cases A<;>simp[Addr.add]
 rw[run_slice_h W t A n c hu kh j h0 (by omega),hel];simp[sizeOf,typeInfo,hi,sliced,Result.andThen,ha]
theorem Ei(t e:TypeId)(kl:IntKind){i:TypeInfo}(ht:P.underlying t=some (.slice e))(hi:P.info? e=some i)(size:Nat)(hsz:i.size=size)(A:Option Addr)(n c:Nat)(j:Int)(h0:0<=j)(hm:j<=n):
 ∀W:World,(Instr.slice t (.slice A n c) (some (.int kl j)) none none).run P W= .ok (.slice (if c=j.toNat then A else A.map (·.add (j.toNat*size))) (n-j.toNat) (c-j.toNat)) W:=by
 intro W;have hel:P.elem t=e:=by simp[Program.elem,ht]
 have hu:P.underlying t=some (.slice (P.elem t)):=by rw[hel];exact ht
 rw[run_slice_l W t A n c hu kl j h0 hm,hel];simp[sizeOf,typeInfo,hi,hsz,sliced,Result.andThen]
end
section
variable {w w1:World} {base n size:Nat} {e:TypeId} {v:Value} {xs:List Value}
theorem oO{g:Nat}: ∀(vs:List Value) (o:Nat) {w:World} (k:Nat),k≠g->(w.setCells g o vs).heap[k]? =w.heap[k]?
 | [],_,_,_,_=>rfl
 |v::r,o,w,k,hk=>by
  rw[World.setCells,oO r (o+1) k hk];exact Below.heap_setCell w ⟨g,o,none⟩ v k hk
theorem nQ(g:Nat): ∀(vs:List Value) (o:Nat) (w:World),(w.setCells g o vs).os=w.os/\(w.setCells g o vs).tape=w.tape/\(w.setCells g o vs).output=w.output/\(w.setCells g o vs).heap.size=w.heap.size
 | [],_,_=>⟨rfl,rfl,rfl,rfl⟩
 |v::r,o,w=>by
  obtain⟨h1,h2,h3,h4⟩:=nQ g r (o+1) (w.setCell ⟨g,o,none⟩ v);rw[World.setCells];exact⟨h1,h2,h3,by rw[h4];simp[World.setCell]⟩
theorem oP{g:Nat}{e:TypeId}: ∀(vs:List Value) (o:Nat) (w:World) (cur:Array Value),w.heap[g]? =some (.cells cur e (0,0))->o+vs.length<=cur.size->
 ∃cur',(w.setCells g o vs).heap[g]? =some (.cells cur' e (0,0))/\cur'.size=cur.size/\cur'.toList=cur.toList.take o++vs++cur.toList.drop (o+vs.length)
 | [],o,w,cur,h,_=>⟨cur,h,rfl,by simp⟩
 |v::r,o,w,cur,h,hl=>by
  have h2:=bC h o v;simp only[List.length_cons]at hl;obtain⟨cur',h3,h4,h5⟩:=oP r (o+1) (w.setCell ⟨g,o,none⟩ v) _ h2 (by simp;omega);refine⟨cur',h3,by rw[h4];simp,?_⟩;rw[h5,Array.toList_setIfInBounds];have ho:o<cur.toList.length:=by rw[Array.length_toList];omega
  rw[List.take_set,List.drop_set_of_lt (by omega)];simp only[List.length_cons];rw[show o+1+r.length=o+(r.length+1) by omega]
  congr 1
  rw[List.take_succ_eq_append_getElem ho,List.set_append_right _ _ (by rw[List.length_take];omega)];have ho':o<cur.size:=by omega
  simp[Nat.min_eq_left (Nat.le_of_lt ho')]
end
section
variable {P:Program}
end
namespace Kd
theorem JV{α:Type}{R:α->List Value->Prop}{size m:Nat}{ps:List α}{cs:List Value}(h:dU R size ps cs)(hm:m<=ps.length):dU R size (ps.take m) (cs.take (m*size)):=by
 refine⟨by rw[List.length_take,List.length_take,h.1,Nat.min_eq_left hm,Nat.min_eq_left (Nat.mul_le_mul_right _ hm)],fun j p hj=>?_⟩;rw[List.getElem?_take]at hj
 split at hj
 ·rename_i hjm
  have:=h.2 j p hj;have hle:j*size+size<=m*size:=by rw[<-Nat.succ_mul];exact Nat.mul_le_mul_right _ hjm
  rw[List.drop_take,List.take_take,Nat.min_eq_left (by omega)];exact this
 ·cases hj
theorem nR{α:Type}{d:Kd α}{e m n c:Nat}{w:World}{base:Nat}{ok:Nat->Prop}{A:Option Addr}{xs:List α}(h:d.R e w base ok (.slice A n c) xs)(hm:m<=xs.length):d.R e w base ok (.slice A m c) (xs.take m):=by
 obtain⟨h0,inner,ho,hr⟩:=h
 have hn:n=xs.length:=by
  obtain⟨A',c',he⟩:=JS ho;injection he
 subst hn
 have hb: ∀x y:Nat,(Value.slice A x c).ownBlock=(Value.slice A y c).ownBlock:=by
  intro x y;cases A<;>rfl
 refine⟨fun k hk=>h0 k (by rw[hb _ m];exact hk),inner.take (m*d.sz),?_,?_⟩
 ·rw[List.length_take,Nat.min_eq_left hm]
  exact Mo ho hm
 ·rw[hb m xs.length]
  exact JV hr hm
section
variable {α:Type} {d:Kd α} {e:Nat} {w w1 W:World} {base:Nat} {ok ok':Nat->Prop} {v:Value} {xs:List α}
end
section
variable {P:Program} {ops:Array Oper} {rest:List Oper} {o:Oper} {a:Act} {Q':Exit->Act->World->Prop} {Kc:Act->World->Prop} {α:Type}
end
end Kd
namespace Kd
section
variable {α:Type} {d:Kd α} {e e':Nat} {w w1 W:World} {base:Nat} {ok:Nat->Prop} {u v:Value} {xs:List α}
theorem rK(h:d.R e w base ok v xs): ∀k,v.ownBlock=some k-> ∃cells,w.heap[k]? =some (.cells cells e (0,0)):=by
 obtain⟨inner,ho⟩:=Eg h;exact fun k hk=>rJ ho k hk
end
end Kd
theorem tF{α:Type}(a seg:List α)(o:Nat)(h:o+seg.length<=a.length)(q:Nat):
 (a.take o++seg++a.drop (o+seg.length))[q]? =if q<o then a[q]? else if q<o+seg.length then seg[q-o]? else a[q]? :=by
 have hl:(a.take o).length=o:=by rw[List.length_take];omega
 rw[List.append_assoc];by_cases h1:q<o
 ·rw[if_pos h1,List.getElem?_append_left (by omega),List.getElem?_take,if_pos h1]
 ·rw[if_neg h1,List.getElem?_append_right (by omega),hl]
  by_cases h2:q<o+seg.length
  ·rw[if_pos h2,List.getElem?_append_left (by omega)]
  ·rw[if_neg h2,List.getElem?_append_right (by omega),List.getElem?_drop]
   congr 1
   omega
namespace Kd
section
variable {α:Type} {d:Kd α} {e base g n cap:Nat} {ok kK:Nat->Prop} {W:World} {xs:List α}
theorem kR(h:d.R e W base ok (.slice (some ⟨g,0,none⟩) n cap) xs)(z:α)(i:Int)(h0:0<=i)(h1:i<n):
 ∃c,c.length=d.sz/\d.M W base (fun k=>ok k/\k≠g) (xs.getD i.toNat z) c/\(∀j u,c[j]? =some u->W.cell? ⟨g,i.toNat*d.sz+j,none⟩=some u)/\ ∀j,W.frozen? ⟨g,i.toNat*d.sz+j,none⟩=false:=by
 obtain⟨hn,hnc,hC⟩:=bA h;obtain⟨_,inner,ho,hr⟩:=h;have hil:i.toNat<xs.length:=by omega
 have TQ:i.toNat*d.sz+d.sz<=inner.length:=by rw[hr.1,<-Nat.succ_mul];exact Nat.mul_le_mul_right _ hil
 have hM:=hr.2 i.toNat _ (List.getElem?_eq_getElem hil);refine⟨(inner.drop (i.toNat*d.sz)).take d.sz,by rw[List.length_take,List.length_drop];omega,?_,fun j u hu=>?_,fun j=>?_⟩
 ·rw[List.getD_eq_getElem?_getD,List.getElem?_eq_getElem hil]
  exact d.fV (fun k hk=>⟨hk.1,fun he=>hk.2 (by rw[he];simp[Value.ownBlock])⟩) hM
 ·rw[List.getElem?_take]at hu
  split at hu
  ·rw[List.getElem?_drop]at hu
   have:=ho.cells (g:=g) (by simp[Value.ownBlock]) _ u hu
   rwa[add_plain]at this
  ·cases hu
 ·obtain⟨cells,hc⟩:=rJ ho g (by simp[Value.ownBlock])
  exact ah hc _
theorem IJ(h:d.R e W base ok (.slice (some ⟨g,0,none⟩) n cap) xs)(i:Int)(h0:0<=i)(h1:i<n){c seg:List Value}{j:Nat}(lJ:c.length=d.sz)(hcc: ∀j u,c[j]? =some u->W.cell? ⟨g,i.toNat*d.sz+j,none⟩=some u)
 (hj:j+seg.length<=d.sz) {x':α} (hM:d.M W base kK x' (c.take j++seg++c.drop (j+seg.length))) (kP: ∀k,kK k->ok k/\k≠g):
 d.R e (W.setCells g (i.toNat*d.sz+j) seg) base ok (.slice (some ⟨g,0,none⟩) n cap) (xs.set i.toNat x')/\W.grownBy (W.setCells g (i.toNat*d.sz+j) seg) (some g):=by
 obtain⟨hn,hnc,_⟩:=bA h;obtain⟨hok,inner,ho,hr⟩:=h;have hil:i.toNat<xs.length:=by omega
 have TQ:i.toNat*d.sz+d.sz<=inner.length:=by rw[hr.1,<-Nat.succ_mul];exact Nat.mul_le_mul_right _ hil
 have hin:inner.length=n*d.sz:=by rw[hr.1,hn]
 obtain⟨ho1,TR⟩:=ho;rcases TR with⟨hv,_⟩|⟨g',cap',cur,hv,hb,hh,af6,hcm,hcs,ht⟩
 ·cases hv
 injection hv with ha _ hc;injection ha with ha;injection ha with hg;subst hg;subst hc
 have hfit:i.toNat*d.sz+j+seg.length<=cur.size:=by
  have:n*d.sz<=cap*d.sz:=Nat.mul_le_mul_right _ hnc;omega
 obtain⟨cur',h3,h4,h5⟩:=oP seg (i.toNat*d.sz+j) W cur hh hfit;obtain⟨s1,s2,s3,s4⟩:=nQ g seg (i.toNat*d.sz+j) W;have GA: ∀k,k≠g->(W.setCells g (i.toNat*d.sz+j) seg).heap[k]? =W.heap[k]? :=fun k hk=>oO seg _ k hk
 have hcin: ∀q,q<d.sz->c[q]? =inner[i.toNat*d.sz+q]? :=by
  intro q hq;have hq':q<c.length:=by omega
  have h6:=hcc q _ (List.getElem?_eq_getElem hq');rw[cell_of_row W g _ cur e (0,0) hh]at h6;rw[List.getElem?_eq_getElem hq',<-h6,<-ht,List.getElem?_take,if_pos (by rw[<-hn];omega),Array.getElem?_toList]
 refine⟨⟨hok,inner.take (i.toNat*d.sz+j)++seg++inner.drop (i.toNat*d.sz+j+seg.length),⟨?_,.inr ⟨g,cap,cur',by rw[List.length_set,hn],hb,h3,by rw[List.length_set,<-hn];exact hnc,hcm,by rw[h4,hcs],?_⟩⟩,?_⟩,
  ⟨s1,s2,s3,by rw[s4];exact Nat.le_refl _,fun k _ hk=>GA k (fun he=>hk (by rw[he]))⟩⟩
 ·rw[List.length_set]
  simp only[List.length_append,List.length_take,List.length_drop];rw[hr.1]at TQ⊢;omega
 ·rw[List.length_set,<-hn]
  apply List.ext_getElem?;intro q;rw[List.getElem?_take,h5];rw[tF cur.toList seg (i.toNat*d.sz+j) (by rw[Array.length_toList];omega) q,tF inner seg (i.toNat*d.sz+j) (by omega) q]
  have abv: ∀q,q<n*d.sz->cur.toList[q]? =inner[q]? :=by
   intro q hq;rw[<-ht,List.getElem?_take,if_pos (by rw[<-hn];exact hq)]
  by_cases hq:q<n*d.sz
  ·rw[if_pos hq,abv q hq]
  ·rw[if_neg hq,if_neg (by omega),if_neg (by omega),List.getElem?_eq_none (by omega)]
 ·refine⟨?_,fun m p hm=>?_⟩
  ·rw[List.length_set]
   simp only[List.length_append,List.length_take,List.length_drop];rw[hr.1]at TQ⊢;omega
  ·have hml:m<xs.length:=by
    have:=(List.getElem?_eq_some_iff.1 hm).1
    rwa[List.length_set]at this
   have aep:m*d.sz+d.sz<=inner.length:=by rw[hr.1,<-Nat.succ_mul];exact Nat.mul_le_mul_right _ hml
   have hgo:some g=(Value.slice (some ⟨g,0,none⟩) n cap).ownBlock:=by simp[Value.ownBlock]
   by_cases hmi:m=i.toNat
   ·subst hmi
    rw[List.getElem?_set_self (by omega)]at hm;injection hm with hm;subst hm
    have hcells:((inner.take (i.toNat*d.sz+j)++seg++inner.drop (i.toNat*d.sz+j+seg.length)).drop (i.toNat*d.sz)).take d.sz=c.take j++seg++c.drop (j+seg.length):=by
     apply List.ext_getElem?;intro q;rw[List.getElem?_take,List.getElem?_drop,tF inner seg _ (by omega),tF c seg j (by omega) q];by_cases hq:q<d.sz
     ·rw[if_pos hq,hcin q hq]
      by_cases hq1:q<j
      ·rw[if_pos (by omega),if_pos hq1]
      ·rw[if_neg (by omega),if_neg hq1]
       by_cases hq2:q<j+seg.length
       ·rw[if_pos (by omega),if_pos hq2]
        congr 1
        omega
       ·rw[if_neg (by omega),if_neg hq2]
     ·rw[if_neg hq,if_neg (by omega),if_neg (by omega),List.getElem?_eq_none (by omega)]
    rw[hcells];refine d.fV (fun k hk=>?_) (d.jx (w1:=W.setCells g (i.toNat*d.sz+j) seg) (fun k hk=>GA k (kP k hk).2) hM);exact⟨(kP k hk).1,fun he=>(kP k hk).2 (by rw[<-hgo]at he;injection he)⟩
   ·rw[List.getElem?_set_ne (by omega)]at hm
    have hold:=hr.2 m p hm
    have hcells:((inner.take (i.toNat*d.sz+j)++seg++inner.drop (i.toNat*d.sz+j+seg.length)).drop (m*d.sz)).take d.sz=(inner.drop (m*d.sz)).take d.sz:=by
     apply List.ext_getElem?;intro q;rw[List.getElem?_take,List.getElem?_take,List.getElem?_drop,List.getElem?_drop,tF inner seg _ (by omega)];by_cases hq:q<d.sz
     ·rw[if_pos hq,if_pos hq]
      rcases Nat.lt_or_gt_of_ne hmi with bI|hgt
      ·have:m*d.sz+d.sz<=i.toNat*d.sz:=by rw[<-Nat.succ_mul];exact Nat.mul_le_mul_right _ bI
       rw[if_pos (by omega)]
      ·have:i.toNat*d.sz+d.sz<=m*d.sz:=by rw[<-Nat.succ_mul];exact Nat.mul_le_mul_right _ hgt
       rw[if_neg (by omega),if_neg (by omega)]
     ·rw[if_neg hq,if_neg hq]
    rw[hcells];refine d.jx (fun k hk=>GA k (fun he=>hk.2 (by rw[he];exact hgo))) hold
end
end Kd
namespace Kd
section
end
end Kd
namespace Kd
theorem qA{α:Type}{R:α->List Value->Prop}{size:Nat}{ps qs:List α}{cs ds:List Value}(h:dU R size ps cs)(h':dU R size qs ds):dU R size (ps++qs) (cs++ds):=by
 refine⟨by rw[List.length_append,List.length_append,h.1,h'.1,Nat.add_mul],fun j p hj=>?_⟩;rcases Nat.lt_or_ge j ps.length with bI|hge
 ·rw[List.getElem?_append_left bI]at hj
  have hle:j*size+size<=cs.length:=by rw[h.1,<-Nat.succ_mul];exact Nat.mul_le_mul_right _ bI
  rw[List.drop_append_of_le_length (by omega),List.take_append_of_le_length (by rw[List.length_drop];omega)];exact h.2 j p hj
 ·rw[List.getElem?_append_right hge]at hj
  have h2:=h'.2 (j-ps.length) p hj;have hle:ps.length*size<=j*size:=Nat.mul_le_mul_right _ hge;rw[List.drop_append,List.drop_eq_nil_of_le (by rw[h.1];exact hle),List.nil_append,h.1,<-Nat.sub_mul];exact h2
section
variable {P:Program} {ops:Array Oper} {rest:List Oper} {o:Oper} {a:Act} {Q:Exit->Act->World->Prop} {α:Type}
theorem fF(d:Kd α){Rr:α->List Value->Prop}{w0 W:World}(base:Nat)(hgd:o.guard=none)(s x:Operand)(t e:TypeId)(z:Value)(bytes:Nat)
 (ho:o.op= .call {callee:= .builtin .append,args:=#[s,x],argTypes:=#[t,t]})
 (ht:P.underlying t=some (.slice e)) (hinfo:(P.info? e).map (fun i=>(i.zero,i.size,i.bytes))=some (some z,d.sz,bytes)) (hz:z.cells.size=d.sz) (hs0:0<d.sz) (hb0:0<bytes)
 (v:Value) (xs ys:List α) (A:Option Addr) (m c:Nat) (ok kK:Nat->Prop) (hs:a.eval s=v) (hx:a.eval x= .slice A m c)
 (HO:d.R e W base ok v xs) (HR:eu Rr d.sz W A m ys) (hKM: ∀x cs,Rr x cs->d.M W base kK x cs) (kP: ∀k,kK k->ok k/\some k≠v.ownBlock) (gB: ∀k,W.heap.size<=k->ok k)
 (HB:Below base w0 W) (hbase:base<=W.heap.size) (hl:(xs.length+m)*bytes<=140737488355328)
 (h: ∀v1 w1,d.R e w1 base ok v1 (xs++ys)->Below base w0 w1->W.grownBy w1 v.ownBlock->(v1.ownBlock=v.ownBlock\/ ∃b,v1.ownBlock=some b/\W.heap.size<=b)->wpList P ops Q rest (a.put o.dst v1) w1):
 wpList P ops Q (o::rest) a W:=by
 obtain⟨i0,hi,hzz⟩:=Option.map_eq_some_iff.1 hinfo;simp only[Prod.mk.injEq]at hzz;obtain⟨hz0,hz1,hz2⟩:=hzz;have hm:ys.length=m:=HR.1;have hlen:xs.length+m<=140737488355328:=Nat.le_trans (Nat.le_mul_of_pos_right _ hb0) hl;obtain⟨hok,inner,hown,hr⟩:=HO
 have hrun: ∃v1 w1,(Builtin.append_ #[t,t] o.type #[v,.slice A m c]).run P W= .ok v1 w1/\d.R e w1 base ok v1 (xs++ys)/\W.grownBy w1 v.ownBlock/\(v1.ownBlock=v.ownBlock\/ ∃b,v1.ownBlock=some b/\W.heap.size<=b):=by
  rcases A with _|ad
  ·have h0:m=0:=by
    rcases Nat.eq_zero_or_pos m with h0|h0
    ·exact h0
    ·obtain⟨ad,h,_⟩:=HR.2.2 h0
     cases h
   subst h0;obtain rfl:ys= []:=List.eq_nil_of_length_eq_zero hm;refine⟨v,W,?_,by rw[List.append_nil];exact⟨hok,inner,hown,hr⟩,World.grownBy.refl W _,.inl rfl⟩;rcases hown.2 with⟨rfl,hn⟩|⟨g,cap,cur,rfl,_,_,hnc,_⟩
   ·simp[Builtin.append_,run_underlying ht,sizeOf,typeInfo,hi,Builtin.lenOf,Builtin.firstCells]
   ·simp[Builtin.append_,run_underlying ht,sizeOf,typeInfo,hi,Builtin.lenOf,Builtin.firstCells,hnc,storeCells]
  ·obtain⟨news,TS,hnc⟩:=eu.Gx HR
   have L1:dU (d.M W base kK) d.sz ys news:=TS.lU (fun p c hp=>hKM p c hp)
   have hone: ∀u∈news,u.oneCell'=true:=by
    intro u hu;obtain⟨q,hq,rfl⟩:=List.mem_iff_getElem.1 hu
    have Qv:q/d.sz<ys.length:=by
     rw[Nat.div_lt_iff_lt_mul hs0];rw[<-L1.1];exact hq
    have hc:=L1.2 (q/d.sz) _ (List.getElem?_eq_getElem Qv);refine d.kJ (d.iu hc) _ ?_;rw[List.mem_iff_getElem?];refine⟨q%d.sz,?_⟩;rw[List.getElem?_take,if_pos (Nat.mod_lt _ hs0),List.getElem?_drop,Nat.mul_comm,Nat.div_add_mod,List.getElem?_eq_getElem hq]
   obtain⟨v1,w1,hrun,h2,hg,_,hat⟩:=run_append_own_at (P:=P) W base t o.type e i0 z d.sz bytes ht hi hz0 hz1 hz2 hz hs0 v xs.length inner hown ad m c news (by rw[L1.1,hm]) hnc hone (by simp only[maxLen];omega) hl hbase
   have hat':v1.ownBlock=v.ownBlock\/ ∃b,v1.ownBlock=some b/\W.heap.size<=b:=by
    rcases hat with hat|hat
    ·exact .inl hat
    ·exact .inr ⟨_,hat,Nat.le_refl _⟩
   have hne: ∀k,some k≠v.ownBlock->k<W.heap.size->some k≠v1.ownBlock:=by
    intro k hk bI;rcases hat' with hat|⟨b,hb,hle⟩
    ·rw[hat];exact hk
    ·rw[hb]
     intro he;injection he with he;omega
   have step: ∀ {q:α} {c:List Value} {o:Nat->Prop},d.M W base o q c->(∀k,o k->ok k/\some k≠v.ownBlock)->d.M w1 base (fun k=>ok k/\some k≠v1.ownBlock) q c:=by
    intro q c o hq ho;have h1:=d.jx (w1:=w1) (fun k hk=>hg.block k hk.2.2.1 (ho k hk.1).2) (d.gF hq);exact d.fV (fun k hk=>⟨(ho k hk.1).1,hne k (ho k hk.1).2 hk.2.2.1⟩) h1
   refine⟨v1,w1,hrun,⟨fun k hk=>?_,inner++news,by rw[List.length_append,hm];exact h2,qA (hr.lU (fun _ _ hq=>step hq (fun _ hk=>hk))) (L1.lU (fun _ _ hq=>step hq kP))⟩,hg,hat'⟩;rcases hat' with hat|⟨b,hb,hle⟩
   ·exact hok k (hat▸hk)
   ·rw[hb]at hk
    injection hk with hk;exact gB k (by omega)
 obtain⟨v1,w1,hr1,h1,hg,hat⟩:=hrun;refine wpList_plain hgd fun K hK=>?_
 unfold Oper.wp execOp;simp only[ho,resolve,invoke,builtin,Sem.run_bind,Sem.run_pure,Result.andThen_ok,List.map_toArray,List.map_cons,List.map_nil,hs,hx,hr1];exact hK _ _ (h v1 w1 h1 (HB.grown hg hbase (iN hown)) hg hat)
end
end Kd
namespace Kd
section
variable {P:Program} {ops:Array Oper} {rest:List Oper} {o:Oper} {a:Act} {Q:Exit->Act->World->Prop} {α:Type}
end
end Kd
theorem add_add(a:Addr)(i j:Nat):(a.add i).add j=a.add (i+j):=by
 unfold Addr.add;by_cases h1:i=0<;>by_cases h2:j=0<;>simp[h1,h2,Nat.add_assoc]
namespace Kd
section
variable {α:Type} {k:Kd α} {w:World} {A:Option Addr} {xs:List α} {m c:Nat}
theorem TT(h:k.C w A xs.length xs)(hm:m<=xs.length):k.C w A (xs.take m).length (xs.take m):=by
 have hl:(xs.take m).length=m:=by rw[List.length_take];omega
 refine⟨rfl,by rw[hl];have:=h.2.1;omega,fun hp=>?_⟩;obtain⟨ad,e,hc⟩:=h.2.2 (by omega);refine⟨ad,e,fun j p hj=>hc j p ?_⟩;rw[List.getElem?_take]at hj
 split at hj
 ·exact hj
 ·cases hj
theorem TU(h:k.C w A xs.length xs)(hm:m<=xs.length)(hc:xs.length<=c):k.C w (if c=m then A else A.map (·.add (m*k.sz))) (xs.drop m).length (xs.drop m):=by
 have hl:(xs.drop m).length=xs.length-m:=List.length_drop;refine⟨rfl,by rw[hl];have:=h.2.1;omega,fun hp=>?_⟩;rw[hl]at hp;obtain⟨ad,rfl,hcell⟩:=h.2.2 (by omega);rw[if_neg (by omega)];refine⟨ad.add (m*k.sz),rfl,fun j p hj=>?_⟩;rw[List.getElem?_drop]at hj;obtain⟨cs,h1,h2,h3⟩:=hcell (m+j) p hj;refine⟨cs,h1,h2,fun i u hu=>?_⟩;rw[add_add,show m*k.sz+(j*k.sz+i)=(m+j)*k.sz+i by rw[Nat.add_mul];omega];exact h3 i u hu
end
end Kd
section
variable {P:Program}
end
theorem gQ{w W:World}(h:Below w.heap.size w W):w.heap.size<=W.heap.size:=h.size
theorem az{w W w2:World}(h:Below w.heap.size w W)(k:Below W.heap.size W w2):Below w.heap.size w w2:=aA h h.size k
theorem jD.nil(W:World)(k:IntKind):jD W k none ([]:List Int).length []:=⟨rfl,by simp,fun h=>absurd h (Nat.lt_irrefl 0)⟩
theorem jD.ofRow{k:IntKind}{w:World}{a:Option Addr}{len cap:Nat}{zs:List Int}(h:(a=none/\len=0/\cap=0/\zs= [])\/ ∃x,a=some x/\len<=cap/\cap<=maxLen/\zs.length=cap/\(∀i,i<zs.length->w.cell? (x.add i)=some (.int k (zs.getD i 0)))/\ ∀n∈zs,(Lit.int k n).wf=true):
 ∃l:List Int,len=l.length/\jD w k a l.length l/\l.length<=maxLen/\ ∀x∈l,(Lit.int k x).wf=true:=by
 rcases h with⟨rfl,rfl,rfl,rfl⟩|⟨x,rfl,hl,hm,hz,hc,hw⟩
 ·exact⟨[],rfl,jD.nil _ _,Nat.zero_le _,fun x hx=>by simp at hx⟩
 ·have e:(zs.take len).length=len:=by simp;omega
  have hm':len<=maxLen:=Nat.le_trans hl hm;refine⟨zs.take len,e.symm,⟨rfl,by rw[e];simpa[maxLen]using hm',fun _=>⟨x,rfl,fun j hj=>?_⟩⟩,by rw[e];exact hm',fun y hy=>hw y (List.mem_of_mem_take hy)⟩;rw[e]at hj;rw[hc j (by omega)];simp[List.getD,List.getElem?_take,hj]
theorem aK{w W:World}{g j:Nat}{v:Value}(h:Below w.heap.size w W)(hg:w.heap.size<=g):Below w.heap.size w (W.setCell ⟨g,j,none⟩ v):=h.setCell hg _
theorem add_block(a:Addr)(i:Nat):(a.add i).block=a.block:=by unfold Addr.add;split<;>rfl
theorem cell_far{W:World}{p a:Addr}(h:a.block≠p.block)(u:Value):(W.setCell p u).cell? a=W.cell? a:=by
 have:=Below.heap_setCell W p u a.block h;simp[World.cell?,this]
theorem nG{w:World}{g:Nat}{t:TypeId}{cs cs':Array Value}(h:w.heap[g]? =some (.cells cs t (0,0)))(i:Nat)(u:Value)(e:cs.setIfInBounds i u=cs'):(w.setCell ⟨g,i,none⟩ u).heap[g]? =some (.cells cs' t (0,0)):=e▸bC h i u
theorem jD.TV{k:IntKind}{w:World}{a:Option Addr}{len cap:Nat}{zs:List Int}(h:(a=none/\len=0/\cap=0/\zs= [])\/ ∃x,a=some x/\len<=cap/\cap<=maxLen/\zs.length=cap/\(∀i,i<zs.length->w.cell? (x.add i)=some (.int k (zs.getD i 0)))/\ ∀n∈zs,(Lit.int k n).wf=true):
 ∃l:List Int,len=l.length/\jD w k a l.length l/\l.length<=maxLen/\(∀x∈l,(Lit.int k x).wf=true)/\l.length<=cap:=by
 have hl:len<=cap:=by
  rcases h with⟨_,rfl,rfl,_⟩|⟨_,_,h,_⟩
  ·exact Nat.le_refl _
  ·exact h
 obtain⟨l,e,h1,h2,h3⟩:=jD.ofRow h;exact⟨l,e,h1,h2,h3,e▸hl⟩
theorem aN{base:Nat}{w W:World}(h:Below base w W):Below base w W.drew:=h.drew
namespace Kd
section
variable {α β:Type} {d:Kd α} {d':Kd β} {e e' base base' n:Nat} {ok ok':Nat->Prop} {w W w1 W1:World} {v u:Value} {xs:List α} {ys:List β} {A:Option Addr} {c:Nat}
end
section
variable {α:Type} {enc:α->Value} {h1: ∀x,(enc x).oneCell'=true} {w W:World} {A:Option Addr} {n g:Nat} {xs:List α}
end
end Kd
namespace Kd
section
variable {α:Type} {d:Kd α} {e base g:Nat} {ok:Nat->Prop} {w w1:World} {v:Value} {xs:List α} {o:Obj}
theorem yq(h:d.R e w base ok v xs)(a:Nat)(ha:w.heap.size<=a):d.R e w base (fun k=>ok k/\k≠a) v xs:=bQ (fW h) (fun k hk=>⟨hk.1,by have:=hk.2.2.1;omega⟩)
end
end Kd
section
variable {P:Program} {ops:Array Oper} {rest:List Oper} {o:Oper} {a:Act} {Q:Exit->Act->World->Prop}
theorem uY{W:World}(hgd:o.guard=none){N:Tmp}(_hd:o.dst=some N){cs:Array Value}{t:TypeId}
 (hrun:(execOp a.eval o).run P W= .ok (.value (.pointer (some ⟨W.heap.size,0,none⟩))) (W.alloc (.cells cs t (0,0))))
 (h: ∀g,g=W.heap.size-> ∀w1,w1.heap[g]? =some (.cells cs t (0,0))->Below W.heap.size W w1->wpList P ops Q rest (a.put o.dst (.pointer (some ⟨g,0,none⟩))) w1):wpList P ops Q (o::rest) a W:=
 Kd.Bo hgd hrun (h _ rfl _ (Qt W _) (af (Below.refl _ _) _))
end
namespace Kd
section
variable {α:Type} {enc:α->Value} {h1: ∀x,(enc x).oneCell'=true} {e base g n cap:Nat} {ok:Nat->Prop} {W:World} {xs:List α}
end
end Kd
section
variable {P:Program} {ops:Array Oper} {rest:List Oper} {o:Oper} {a:Act} {Q:Exit->Act->World->Prop}
end
namespace Kd
section
variable {α:Type} {enc:α->Value} {h1: ∀x,(enc x).oneCell'=true} {e base g n cap:Nat} {ok:Nat->Prop} {W:World} {xs:List α}
end
end Kd
section
variable {P:Program} {ops:Array Oper} {rest:List Oper} {o:Oper} {a:Act} {Q:Exit->Act->World->Prop} {W:World}
theorem tG{N:Tmp}(_hN:o.dst=some N)(h:wpList P ops Q (o::rest) a W):wpList P ops Q (o::rest) a W:=h
end
section
variable {P:Program} {ops:Array Oper} {o:Oper} {a:Act} {Q:Exit->Act->World->Prop} {Kc:Act->World->Prop}
namespace Kd
variable {α:Type}
theorem cr(d:Kd α){Rr:α->List Value->Prop}{w0 W:World}(base:Nat)(hw:Region.wanted o (yielded ops a.tmps)=true)(s x:Operand)(t e:TypeId)(z:Value)(bytes:Nat)
 (ho:o.op= .call {callee:= .builtin .append,args:=#[s,x],argTypes:=#[t,t]})
 (ht:P.underlying t=some (.slice e)) (hinfo:(P.info? e).map (fun i=>(i.zero,i.size,i.bytes))=some (some z,d.sz,bytes)) (hz:z.cells.size=d.sz) (hs0:0<d.sz) (hb0:0<bytes)
 (v:Value) (xs ys:List α) (A:Option Addr) (m c:Nat) (ok kK:Nat->Prop) (hs:a.eval s=v) (hx:a.eval x= .slice A m c)
 (HO:d.R e W base ok v xs) (HR:eu Rr d.sz W A m ys) (hKM: ∀x cs,Rr x cs->d.M W base kK x cs) (kP: ∀k,kK k->ok k/\some k≠v.ownBlock) (gB: ∀k,W.heap.size<=k->ok k)
 (HB:Below base w0 W) (hbase:base<=W.heap.size) (hl:(xs.length+m)*bytes<=140737488355328)
 (h: ∀v1 w1,d.R e w1 base ok v1 (xs++ys)->Below base w0 w1->W.grownBy w1 v.ownBlock->(v1.ownBlock=v.ownBlock\/ ∃b,v1.ownBlock=some b/\W.heap.size<=b)->Kc (a.put o.dst v1) w1):
 if Region.wanted o (yielded ops a.tmps)=true then Oper.wp P o a W Kc Q else Kc (a.put o.dst undef) W:=by
 obtain⟨i0,hi,hzz⟩:=Option.map_eq_some_iff.1 hinfo;simp only[Prod.mk.injEq]at hzz;obtain⟨hz0,hz1,hz2⟩:=hzz;have hm:ys.length=m:=HR.1;have hlen:xs.length+m<=140737488355328:=Nat.le_trans (Nat.le_mul_of_pos_right _ hb0) hl;obtain⟨hok,inner,hown,hr⟩:=HO
 have hrun: ∃v1 w1,(Builtin.append_ #[t,t] o.type #[v,.slice A m c]).run P W= .ok v1 w1/\d.R e w1 base ok v1 (xs++ys)/\W.grownBy w1 v.ownBlock/\(v1.ownBlock=v.ownBlock\/ ∃b,v1.ownBlock=some b/\W.heap.size<=b):=by
  rcases A with _|ad
  ·have h0:m=0:=by
    rcases Nat.eq_zero_or_pos m with h0|h0
    ·exact h0
    ·obtain⟨ad,h,_⟩:=HR.2.2 h0
     cases h
   subst h0;obtain rfl:ys= []:=List.eq_nil_of_length_eq_zero hm;refine⟨v,W,?_,by rw[List.append_nil];exact⟨hok,inner,hown,hr⟩,World.grownBy.refl W _,.inl rfl⟩;rcases hown.2 with⟨rfl,hn⟩|⟨g,cap,cur,rfl,_,_,hnc,_⟩
   ·simp[Builtin.append_,run_underlying ht,sizeOf,typeInfo,hi,Builtin.lenOf,Builtin.firstCells]
   ·simp[Builtin.append_,run_underlying ht,sizeOf,typeInfo,hi,Builtin.lenOf,Builtin.firstCells,hnc,storeCells]
  ·obtain⟨news,TS,hnc⟩:=eu.Gx HR
   have L1:dU (d.M W base kK) d.sz ys news:=TS.lU (fun p c hp=>hKM p c hp)
   have hone: ∀u∈news,u.oneCell'=true:=by
    intro u hu;obtain⟨q,hq,rfl⟩:=List.mem_iff_getElem.1 hu
    have Qv:q/d.sz<ys.length:=by
     rw[Nat.div_lt_iff_lt_mul hs0];rw[<-L1.1];exact hq
    have hc:=L1.2 (q/d.sz) _ (List.getElem?_eq_getElem Qv);refine d.kJ (d.iu hc) _ ?_;rw[List.mem_iff_getElem?];refine⟨q%d.sz,?_⟩;rw[List.getElem?_take,if_pos (Nat.mod_lt _ hs0),List.getElem?_drop,Nat.mul_comm,Nat.div_add_mod,List.getElem?_eq_getElem hq]
   obtain⟨v1,w1,hrun,h2,hg,_,hat⟩:=run_append_own_at (P:=P) W base t o.type e i0 z d.sz bytes ht hi hz0 hz1 hz2 hz hs0 v xs.length inner hown ad m c news (by rw[L1.1,hm]) hnc hone (by simp only[maxLen];omega) hl hbase
   have hat':v1.ownBlock=v.ownBlock\/ ∃b,v1.ownBlock=some b/\W.heap.size<=b:=by
    rcases hat with hat|hat
    ·exact .inl hat
    ·exact .inr ⟨_,hat,Nat.le_refl _⟩
   have hne: ∀k,some k≠v.ownBlock->k<W.heap.size->some k≠v1.ownBlock:=by
    intro k hk bI;rcases hat' with hat|⟨b,hb,hle⟩
    ·rw[hat];exact hk
    ·rw[hb]
     intro he;injection he with he;omega
   have step: ∀ {q:α} {c:List Value} {o:Nat->Prop},d.M W base o q c->(∀k,o k->ok k/\some k≠v.ownBlock)->d.M w1 base (fun k=>ok k/\some k≠v1.ownBlock) q c:=by
    intro q c o hq ho;have h1:=d.jx (w1:=w1) (fun k hk=>hg.block k hk.2.2.1 (ho k hk.1).2) (d.gF hq);exact d.fV (fun k hk=>⟨(ho k hk.1).1,hne k (ho k hk.1).2 hk.2.2.1⟩) h1
   refine⟨v1,w1,hrun,⟨fun k hk=>?_,inner++news,by rw[List.length_append,hm];exact h2,qA (hr.lU (fun _ _ hq=>step hq (fun _ hk=>hk))) (L1.lU (fun _ _ hq=>step hq kP))⟩,hg,hat'⟩;rcases hat' with hat|⟨b,hb,hle⟩
   ·exact hok k (hat▸hk)
   ·rw[hb]at hk
    injection hk with hk;exact gB k (by omega)
 obtain⟨v1,w1,hr1,h1,hg,hat⟩:=hrun;rw[if_pos hw];unfold Oper.wp execOp;simp only[ho,resolve,invoke,builtin,Sem.run_bind,Sem.run_pure,Result.andThen_ok,List.map_toArray,List.map_cons,List.map_nil,hs,hx,hr1];exact h v1 w1 h1 (HB.grown hg hbase (iN hown)) hg hat
end Kd
end
section
variable {P:Program} {tmps:Array Value} {w:World}
end
namespace Kd
section
variable {P:Program} {α:Type}
end
section
variable {P:Program} {ops:Array Oper} {rest:List Oper} {o:Oper} {a:Act} {Q:Exit->Act->World->Prop} {Kc:Act->World->Prop} {α:Type}
end
end Kd
end Go.Proofs.Wz.PrintWords
namespace Go.Proofs.Wz.bM
section
variable {P:Program} {ops:Array Oper} {Q:Exit->Act->World->Prop} {md:Region.Mode} {S:World->Prop} {ds:List Nat}
def Region.nS(md:Region.Mode)(ops:Array Oper)(i:Nat):Nat->Nat->Bool
 |0,_=>false
 |fuel+1,d=>match ops[d]? with
  |some o=>o.after.any fun e=>Region.binds md e&&(e.on==i||Region.nS md ops i fuel e.on)
  |none=>false
def Region.Cv(md:Region.Mode)(ops:Array Oper)(listed:Array Bool):Bool:=
 (List.range ops.size).all fun j=> !listed.getD j false||match ops[j]? with
  |some o=>o.after.all fun e=> !Region.binds md e||listed.getD e.on false
  |none=>true
def Region.SM(md:Region.Mode)(ops:Array Oper)(listed:Array Bool)(ds:List Nat)(i:Nat):Bool:=
 ds.all fun d=>listed.getD d true||Region.nS md ops i ops.size d
def iD(md:Region.Mode)(ops:Array Oper)(listed:Array Bool):Prop:=
 ∀j oj,ops[j]? =some oj->listed.getD j false=true-> ∀e∈oj.after,Region.binds md e=true->listed.getD e.on false=true
theorem Region.Cw{listed:Array Bool}(h:Region.Cv md ops listed=true):iD md ops listed:=by
 intro j oj hj hl e he hb;have bI:j<ops.size:=(Array.getElem?_eq_some_iff.1 hj).1;have h1:=List.all_eq_true.1 h j (List.mem_range.2 bI);simp only[hl,hj,Bool.not_true,Bool.false_or]at h1;have h2:=Array.all_eq_true_iff_forall_mem.1 h1 e he;simpa[hb]using h2
theorem iD.set{listed:Array Bool}{i:Nat}(h:iD md ops listed)(hi:i∈Region.ready md ops listed):iD md ops (listed.setIfInBounds i true):=by
 obtain⟨_,oi,hoi,hall⟩:=mem_ready.1 hi;intro j oj hj hl e he hb;by_cases hij:i=j
 ·subst hij
  have:oj=oi:=Option.some.inj (hj.symm.trans hoi);subst this;exact getD_set_true (hall e he hb)
 ·rw[getD_set_ne false hij]at hl
  exact getD_set_true (h j oj hj hl e he hb)
theorem Region.tH{listed:Array Bool}{i:Nat}(hc:iD md ops listed): ∀(fuel d:Nat),Region.nS md ops i fuel d=true->listed.getD d false=true->listed.getD i false=true
 |0,_,h,_=>by simp[Region.nS]at h
 |fuel+1,d,h,hl=>by
  unfold Region.nS at h;cases ho:ops[d]? with
  |none=>rw[ho]at h;simp at h
  |some o=>
   rw[ho]at h;obtain⟨e,he,h1⟩:=Array.any_eq_true'.1 h;simp only[Bool.and_eq_true,Bool.or_eq_true,beq_iff_eq]at h1;have hle:=hc d o ho hl e he h1.1;rcases h1.2 with h2|h2
   ·rw[<-h2];exact hle
   ·exact Region.tH hc fuel e.on h2 hle
theorem Region.wU{listed:Array Bool}{i d fuel:Nat}(hc:iD md ops listed)(hr:Region.nS md ops i fuel d=true)(hun:listed.getD i true=false):d∉Region.ready md ops listed:=by
 intro hd;obtain⟨_,o,ho,hall⟩:=mem_ready.1 hd
 have hi:listed.getD i false=true:=by
  cases fuel with
  |zero=>simp[Region.nS]at hr
  |succ n=>
   unfold Region.nS at hr;rw[ho]at hr;obtain⟨e,he,h1⟩:=Array.any_eq_true'.1 hr;simp only[Bool.and_eq_true,Bool.or_eq_true,beq_iff_eq]at h1;have hle:=hall e he h1.1;rcases h1.2 with h2|h2
   ·rw[<-h2];exact hle
   ·exact Region.tH hc n e.on h2 hle
 rcases Nat.lt_or_ge i listed.size with h'|h'
 ·simp[h']at hun hi
  rw[hun]at hi;cases hi
 ·simp[Array.getElem?_eq_none h']at hun
def aP(P:Program)(md:Region.Mode)(ops:Array Oper)(Q:Exit->Act->World->Prop)(S:World->Prop)(ds:List Nat):Nat->Array Bool->Act->World->Prop
 |0,listed,a,w=>Region.ready md ops listed= []/\Q .normal a w
 |fuel+1,listed,a,w=>
  (Region.ready md ops listed= []->Q .normal a w)/\
  ∀i∈Region.ready md ops listed,wpOp P ops Q i (fun a' w'=>(i∉ds->S w->S w')/\aP P md ops Q S ds fuel (listed.setIfInBounds i true) a' w') a w
theorem nU: ∀(fuel:Nat) (listed:Array Bool) (a:Act) (w:World),aP P md ops Q S ds fuel listed a w->wpAny P md ops Q fuel listed a w
 |0,_,_,_,h=>h
 |fuel+1,_,_,_,h=>⟨h.1,fun i hi=>wpOp_mono (fun a' w' h'=>nU fuel _ a' w' h'.2) (h.2 i hi)⟩
theorem wV{i:Nat}{oi:Oper}{v:Value}(hi:ops[i]? =some oi)(hsel: ∀(j:Nat) (o:Oper) cs b,ops[j]? =some o->o.op≠ .select cs b)
 (hQ: ∀c a w,Q (.panic c) (a.put oi.dst v) w->Q (.panic c) a w) (n:Nat):
 ∀(fuel:Nat) (listed:Array Bool) (a:Act) (w:World),
  (∀j oj,ops[j]? =some oj->j≠i->listed.getD j true=false->(∀e∈oj.after,Region.binds md e=true->e.on≠i)->oi.apart ops oj=true)->
  iD md ops listed->(∀d∈ds,listed.getD d true=false->Region.nS md ops i n d=true)->
  i∈Region.ready md ops listed->YieldsIf P ops S oi v a->S w->
  aP P md ops Q S ds fuel (listed.setIfInBounds i true) (a.put oi.dst v) w->aP P md ops Q S ds (fuel+1) listed a w:=by
 intro fuel;induction fuel with
 |zero=>
  intro listed a w _ _ _ hr hy hS H;refine⟨fun h=>(by rw[h]at hr;cases hr),fun j hj=>?_⟩;by_cases hji:j=i
  ·subst hji;exact hy.wpOp hi hS ⟨fun _ h=>h,H⟩
  ·have:=ready_mono hj hji
   rw[H.1]at this;cases this
 |succ fuel ih=>
  intro listed a w hfree hc hd hr hy hS H;refine⟨fun h=>(by rw[h]at hr;cases hr),fun j hj=>?_⟩;by_cases hji:j=i
  ·subst hji;exact hy.wpOp hi hS ⟨fun _ h=>h,H⟩
  ·have h1:=H.2 j (ready_mono hj hji)
   obtain⟨GC,oj,TW,hall⟩:=mem_ready.1 hj;have JW:=(mem_ready.1 hr).1
   have hnot: ∀e∈oj.after,Region.binds md e=true->e.on≠i:=fun e he hb heq=>by
    have h1:=hall e he hb;rw[heq]at h1;rcases Nat.lt_or_ge i listed.size with h'|h'
    ·simp[h']at JW h1;rw[JW]at h1;cases h1
    ·simp[Array.getElem?_eq_none h']at h1
   have hjd:j∉ds:=fun hm=>Region.wU hc (hd j hm GC) JW hj
   have h2:=wpOp_putIf TW (hfree j oj TW hji GC hnot) (fun cs b=>hsel i oi cs b hi) (fun cs b=>hsel j oj cs b TW) hQ hy h1
   have GD: ∀k ok,ops[k]? =some ok->k≠i->(listed.setIfInBounds j true).getD k true=false->
    (∀e∈ok.after,Region.binds md e=true->e.on≠i)->oi.apart ops ok=true:=fun k ok hk hki hun hno=>by
    refine hfree k ok hk hki ?_ hno;by_cases hjk:j=k
    ·subst hjk;exact GC
    ·rw[getD_set_ne true hjk]at hun;exact hun
   have hd': ∀d∈ds,(listed.setIfInBounds j true).getD d true=false->Region.nS md ops i n d=true:=fun d hm hun=>by
    refine hd d hm ?_;by_cases hjk:j=d
    ·subst hjk;exact GC
    ·rw[getD_set_ne true hjk]at hun;exact hun
   refine wpOp_mono (fun a' w' h3=>⟨h3.2.1,ih (listed.setIfInBounds j true) a' w' GD (hc.set hj) hd' (ready_mono hr (Ne.symm hji)) h3.1 (h3.2.1 hjd hS) ?_⟩) h2;rw[Array.setIfInBounds_comm _ _ hji];exact h3.2.2
theorem Ak{i:Nat}{oi:Oper}{v:Value}(hi:ops[i]? =some oi)(hsel: ∀(j:Nat) (o:Oper) cs b,ops[j]? =some o->o.op≠ .select cs b)
 (hQ: ∀c a w,Q (.panic c) (a.put oi.dst v) w->Q (.panic c) a w):
 ∀(fuel:Nat) (listed:Array Bool) (a:Act) (w:World),
  (∀j oj,ops[j]? =some oj->j≠i->listed.getD j true=false->(∀e∈oj.after,Region.binds md e=true->e.on≠i)->oi.apart ops oj=true)->
  i∈Region.ready md ops listed->Yields P ops oi v a->
  aP P md ops Q S ds fuel (listed.setIfInBounds i true) (a.put oi.dst v) w->aP P md ops Q S ds (fuel+1) listed a w:=by
 intro fuel;induction fuel with
 |zero=>
  intro listed a w _ hr hy H;refine⟨fun h=>(by rw[h]at hr;cases hr),fun j hj=>?_⟩;by_cases hji:j=i
  ·subst hji;exact(hy.yieldsIf (S:=fun _=>True)).wpOp hi trivial ⟨fun _ h=>h,H⟩
  ·have:=ready_mono hj hji
   rw[H.1]at this;cases this
 |succ fuel ih=>
  intro listed a w hfree hr hy H;refine⟨fun h=>(by rw[h]at hr;cases hr),fun j hj=>?_⟩;by_cases hji:j=i
  ·subst hji;exact(hy.yieldsIf (S:=fun _=>True)).wpOp hi trivial ⟨fun _ h=>h,H⟩
  ·have h1:=H.2 j (ready_mono hj hji)
   obtain⟨GC,oj,TW,hall⟩:=mem_ready.1 hj;have JW:=(mem_ready.1 hr).1
   have hnot: ∀e∈oj.after,Region.binds md e=true->e.on≠i:=fun e he hb heq=>by
    have h1:=hall e he hb;rw[heq]at h1;rcases Nat.lt_or_ge i listed.size with h'|h'
    ·simp[h']at JW h1;rw[JW]at h1;cases h1
    ·simp[Array.getElem?_eq_none h']at h1
   have h2:=wpOp_put TW (hfree j oj TW hji GC hnot) (fun cs b=>hsel i oi cs b hi) (fun cs b=>hsel j oj cs b TW) hQ hy h1
   have GD: ∀k ok,ops[k]? =some ok->k≠i->(listed.setIfInBounds j true).getD k true=false->
    (∀e∈ok.after,Region.binds md e=true->e.on≠i)->oi.apart ops ok=true:=fun k ok hk hki hun hno=>by
    refine hfree k ok hk hki ?_ hno;by_cases hjk:j=k
    ·subst hjk;exact GC
    ·rw[getD_set_ne true hjk]at hun;exact hun
   refine wpOp_mono (fun a' w' h3=>⟨h3.2.1,ih (listed.setIfInBounds j true) a' w' GD (ready_mono hr (Ne.symm hji)) h3.1 ?_⟩) h2;rw[Array.setIfInBounds_comm _ _ hji];exact h3.2.2
theorem yt{i:Nat}{oi:Oper}{v:Value}{fuel:Nat}{listed:Array Bool}{a:Act}{w:World}(hi:ops[i]? =some oi)
 (hs:Region.noSelect ops=true) (hf:Region.free md ops listed i=true) (hr:(Region.ready md ops listed).contains i=true)
 (hc:Region.Cv md ops listed=true) (hl:Region.SM md ops listed ds i=true)
 (hQ: ∀c a w,Q (.panic c) (a.put oi.dst v) w->Q (.panic c) a w) (hy:YieldsIf P ops S oi v a) (hS:S w)
 (h:aP P md ops Q S ds fuel (listed.setIfInBounds i true) (a.put oi.dst v) w):aP P md ops Q S ds (fuel+1) listed a w:=
 wV hi (Region.noSelect_spec hs) hQ ops.size fuel listed a w (Region.free_spec hi hf) (Region.Cw hc)
  (fun d hm hun=>by have:=List.all_eq_true.1 hl d hm;rw[hun]at this;simpa using this) (by simpa using hr) hy hS h
theorem Al{rs:List Nat}{fuel:Nat}{listed:Array Bool}{a:Act}{w:World}(hr:Region.ready md ops listed=rs)(hne:rs≠ [])
 (h: ∀i∈rs,wpOp P ops Q i (fun a' w'=>(i∉ds->S w->S w')/\aP P md ops Q S ds fuel (listed.setIfInBounds i true) a' w') a w):aP P md ops Q S ds (fuel+1) listed a w:=
 ⟨fun h0=>absurd (hr▸h0) hne,hr▸h⟩
theorem yu{listed:Array Bool}{a:Act}{w:World}(hr:Region.ready md ops listed= [])(h:Q .normal a w):
 ∀fuel,aP P md ops Q S ds fuel listed a w
 |0=>⟨hr,h⟩
 |_+1=>⟨fun _=>h,by rw[hr];simp⟩
theorem yw{id:Nat}{a:Act}{w:World}(hm:P.follows .mixedOrders=true)
 (h:aP P .any ops Q S ds ops.size (Array.replicate ops.size false) a {w with drawn:=w.drawn+1}):(Code.region id ops true).wp P Q a w:=
 wp_region_any hm (nU _ _ _ _ h)
end
section
variable {P:Program} {ops:Array Oper} {Q:Exit->Act->World->Prop} {md:Region.Mode} {S:World->Prop} {ds:List Nat}
def eU(P:Program)(md:Region.Mode)(ops:Array Oper)(Q:Exit->Act->World->Prop)(S:World->Prop)(ds:List Nat)(fuel:Nat)(listed:Array Bool)(a:Act)(w:World)(rs:List Nat):Prop:=
 ∀i∈rs,wpOp P ops Q i (fun a' w'=>(i∉ds->S w->S w')/\aP P md ops Q S ds fuel (listed.setIfInBounds i true) a' w') a w
theorem eU.nil{fuel:Nat}{listed:Array Bool}{a:Act}{w:World}:eU P md ops Q S ds fuel listed a w []:=fun _ h=>by cases h
theorem eU.cons{fuel:Nat}{listed:Array Bool}{a:Act}{w:World}{i:Nat}{o:Oper}{rs:List Nat}(ho:ops[i]? =some o)(hd:i∉ds)
 (h: ∀K':Act->World->Prop,Shut (∀a w,S w->(S w->aP P md ops Q S ds fuel (listed.setIfInBounds i true) a w)->K' a w)->if Region.wanted o (yielded ops a.tmps)=true then Oper.wp P o a w K' Q else K' (a.put o.dst undef) w)
 (hs:eU P md ops Q S ds fuel listed a w rs):eU P md ops Q S ds fuel listed a w (i::rs):=fun j hj=>by
 rcases List.mem_cons.1 hj with rfl|hj
 ·exact wpOp_step ho (fun K' hK=>h K' (fun a w hS hW=>hK a w ⟨fun _ _=>hS,hW hS⟩))
 ·exact hs j hj
theorem eU.JX{fuel:Nat}{listed:Array Bool}{a:Act}{w:World}{i:Nat}{o:Oper}{rs:List Nat}(ho:ops[i]? =some o)(hd:i∈ds)
 (h: ∀K':Act->World->Prop,Shut (∀a w,aP P md ops Q S ds fuel (listed.setIfInBounds i true) a w->K' a w)->if Region.wanted o (yielded ops a.tmps)=true then Oper.wp P o a w K' Q else K' (a.put o.dst undef) w)
 (hs:eU P md ops Q S ds fuel listed a w rs):eU P md ops Q S ds fuel listed a w (i::rs):=fun j hj=>by
 rcases List.mem_cons.1 hj with rfl|hj
 ·exact wpOp_step ho (fun K' hK=>h K' (fun a w hW=>hK a w ⟨fun hn=>absurd hd hn,hW⟩))
 ·exact hs j hj
theorem lV{rs:List Nat}{fuel:Nat}{listed:Array Bool}{a:Act}{w:World}(hr:Region.ready md ops listed=rs)(hne:rs≠ [])
 (h:eU P md ops Q S ds fuel listed a w rs):aP P md ops Q S ds (fuel+1) listed a w:=Al hr hne h
theorem Mp{id n:Nat}{a:Act}{w:World}(l:Array Bool)(hm:P.follows .mixedOrders=true)(hn:ops.size=n)(hl:Array.replicate n false=l)(hS:S w.drew)
 (h:S w.drew->aP P .any ops Q S ds n l a w.drew):(Code.region id ops true).wp P Q a w:=by
 subst hn;subst hl;exact yw hm (h hS)
def Mq(md:Region.Mode)(ops:Array Oper)(ds:List Nat)(l l':Array Bool)(i:Nat):Bool:=
 Region.noSelect ops&&Region.free md ops l i&&(Region.ready md ops l).contains i&&Region.Cv md ops l&&Region.SM md ops l ds i&&(l.setIfInBounds i true==l')
theorem Ef{i:Nat}{N:Option Tmp}{oi:Oper}{v:Value}{fuel:Nat}{l:Array Bool}{a:Act}{w:World}(l':Array Bool)(hi:ops[i]? =some oi)(hN:oi.dst=N)(hc:Mq md ops ds l l' i=true)
 (hQ: ∀c a w,Q (.panic c) (a.put oi.dst v) w->Q (.panic c) a w) (hy:YieldsIf P ops S oi v a) (hS:S w) {a':Act} (ha:a.put N v=a')
 (h:aP P md ops Q S ds fuel l' a' w):aP P md ops Q S ds (fuel+1) l a w:=by
 subst ha;subst hN;simp only[Mq,Bool.and_eq_true,beq_iff_eq]at hc;obtain⟨⟨⟨⟨⟨h1,h2⟩,h3⟩,h4⟩,h5⟩,h6⟩:=hc;subst h6;exact yt hi h1 h2 h3 h4 h5 hQ hy hS h
def Ej(md:Region.Mode)(ops:Array Oper)(l l':Array Bool)(i:Nat):Bool:=
 Region.noSelect ops&&Region.free md ops l i&&(Region.ready md ops l).contains i&&(l.setIfInBounds i true==l')
theorem oh{i:Nat}{N:Option Tmp}{oi:Oper}{v:Value}{fuel:Nat}{l:Array Bool}{a:Act}{w:World}(l':Array Bool)(hi:ops[i]? =some oi)(hN:oi.dst=N)(hc:Ej md ops l l' i=true)
 (hQ: ∀c a w,Q (.panic c) (a.put oi.dst v) w->Q (.panic c) a w) (hy:Yields P ops oi v a) {a':Act} (ha:a.put N v=a')
 (h:aP P md ops Q S ds fuel l' a' w):aP P md ops Q S ds (fuel+1) l a w:=by
 subst ha;subst hN;simp only[Ej,Bool.and_eq_true,beq_iff_eq]at hc;obtain⟨⟨⟨h1,h2⟩,h3⟩,h6⟩:=hc;subst h6;exact Ak hi (Region.noSelect_spec h1) hQ fuel l a w (Region.free_spec hi h2) (by simpa using h3) hy h
def sH(md:Region.Mode)(ops:Array Oper)(l l':Array Bool)(i:Nat):Bool:=(Region.ready md ops l== [i])&&(l.setIfInBounds i true==l')
theorem abx{i:Nat}{N:Option Tmp}{oi:Oper}{fuel:Nat}{l:Array Bool}{a:Act}{w:World}(l':Array Bool)(hi:ops[i]? =some oi)(hN:oi.dst=N)(hc:sH md ops l l' i=true)(hd:i∉ds)
 (h: ∀K:Act->World->Prop,Shut (∀a' w',S w'->(S w'->aP P md ops Q S ds fuel l' a' w')->K a' w')->if Region.wanted oi (yielded ops a.tmps)=true then Oper.wp P oi a w K Q else K (a.put N undef) w):
 aP P md ops Q S ds (fuel+1) l a w:=by
 subst hN;simp only[sH,Bool.and_eq_true,beq_iff_eq]at hc;obtain⟨h1,h2⟩:=hc;subst h2;exact lV h1 (by simp) (eU.cons hi hd (fun K hK=>h K hK) eU.nil)
theorem Mr{i:Nat}{N:Option Tmp}{oi:Oper}{fuel:Nat}{l:Array Bool}{a:Act}{w:World}(l':Array Bool)(hi:ops[i]? =some oi)(hN:oi.dst=N)(hc:sH md ops l l' i=true)(hd:i∈ds)
 (h: ∀K:Act->World->Prop,Shut (∀a' w',aP P md ops Q S ds fuel l' a' w'->K a' w')->if Region.wanted oi (yielded ops a.tmps)=true then Oper.wp P oi a w K Q else K (a.put N undef) w):
 aP P md ops Q S ds (fuel+1) l a w:=by
 subst hN;simp only[sH,Bool.and_eq_true,beq_iff_eq]at hc;obtain⟨h1,h2⟩:=hc;subst h2;exact lV h1 (by simp) (eU.JX hi hd (fun K hK=>h K hK) eU.nil)
theorem SN{l:Array Bool}{a:Act}{w:World}{n:Nat}(hr:(Region.ready md ops l== [])=true)(h:Q .normal a w):aP P md ops Q S ds n l a w:=yu (by simpa using hr) h n
theorem aby{i j:Nat}{Ni Nj:Option Tmp}{oi oj:Oper}{fuel:Nat}{l:Array Bool}{a:Act}{w:World}(li lj:Array Bool)(hi:ops[i]? =some oi)(hj:ops[j]? =some oj)(hNi:oi.dst=Ni)(hNj:oj.dst=Nj)
 (hc:(Region.ready md ops l== [i,j]&&l.setIfInBounds i true==li&&l.setIfInBounds j true==lj)=true) (hdi:i∉ds) (hdj:j∉ds)
 (h1: ∀K:Act->World->Prop,Shut (∀a' w',S w'->(S w'->aP P md ops Q S ds fuel li a' w')->K a' w')->if Region.wanted oi (yielded ops a.tmps)=true then Oper.wp P oi a w K Q else K (a.put Ni undef) w)
 (h2: ∀K:Act->World->Prop,Shut (∀a' w',S w'->(S w'->aP P md ops Q S ds fuel lj a' w')->K a' w')->if Region.wanted oj (yielded ops a.tmps)=true then Oper.wp P oj a w K Q else K (a.put Nj undef) w):
 aP P md ops Q S ds (fuel+1) l a w:=by
 subst hNi;subst hNj;simp only[Bool.and_eq_true,beq_iff_eq]at hc;obtain⟨⟨h3,h4⟩,h5⟩:=hc;subst h4;subst h5;exact lV h3 (by simp) (eU.cons hi hdi (fun K hK=>h1 K hK) (eU.cons hj hdj (fun K hK=>h2 K hK) eU.nil))
theorem WT{fuel:Nat}{l:Array Bool}{a a':Act}{w:World}(ha:a=a')(h:aP P md ops Q S ds fuel l a' w):aP P md ops Q S ds fuel l a w:=by
 subst ha;exact h
theorem WU{oi:Oper}{N:Option Tmp}{a:Act}{w:World}{K:Act->World->Prop}(f:FuncId)(args:Array Value)(hw:Region.wanted oi (yielded ops a.tmps)=true)(hN:oi.dst=N)(hrun:(execOp a.eval oi).run P w= .ok (.enter f args) w)
 (h:Calls P f args w fun e w'=> ∃v,e= .returned v/\K (a.put N v) w'):if Region.wanted oi (yielded ops a.tmps)=true then Oper.wp P oi a w K Q else K (a.put N undef) w:=by
 rw[if_pos hw];subst hN;unfold Oper.wp;rw[hrun,Oper.upon_enter];refine h.mono fun e w'' hh=>?_
 obtain⟨v,rfl,hk⟩:=hh;exact hk
theorem IK{f:FuncId}{fn:Func}(hf:P.funcs[f]? =some fn)(hname:(fn.name== "runtime.NumGoroutine")=false)(hb:fn.body.isSome=true)(args:Array Value)(w:World):(callFunc f args).run P w= .ok (.enter f args) w:=by
 have h1:fn.name≠ "runtime.NumGoroutine" :=by simpa using hname
 obtain⟨c,hc⟩:=Option.isSome_iff_exists.1 hb;simp[callFunc,hf,h1,hc]
theorem om{oi:Oper}{N:Option Tmp}{a:Act}{w:World}{K:Act->World->Prop}{f:FuncId}{fn:Func}{aaJ:Array Operand}{ts:Array TypeId}(hf:P.funcs[f]? =some fn)(hname:(fn.name== "runtime.NumGoroutine")=false)(hb:fn.body.isSome=true)(args:Array Value)
 (hw:Region.wanted oi (yielded ops a.tmps)=true) (hN:oi.dst=N) (hop:oi.op= .call {callee:= .value (.func f),args:=aaJ,argTypes:=ts}) (hargs:aaJ.map a.eval=args)
 (h:Calls P f args w fun e w'=> ∃v,e= .returned v/\K (a.put N v) w'):if Region.wanted oi (yielded ops a.tmps)=true then Oper.wp P oi a w K Q else K (a.put N undef) w:=by
 refine WU f args hw hN ?_ h;have he:=IK hf hname hb args w;unfold execOp;simp[hop,resolve,Deferred.ofValue,invoke,Act.eval,hargs,he]
theorem GF{rest:List Oper}{oi:Oper}{a:Act}{w:World}(N:Option Tmp)(hd:oi.dst=N)(hg:oi.guard=none){f:FuncId}{fn:Func}{aaJ:Array Operand}{ts:Array TypeId}(hf:P.funcs[f]? =some fn)(hname:(fn.name== "runtime.NumGoroutine")=false)(hb:fn.body.isSome=true)(args:Array Value)
 (hop:oi.op= .call {callee:= .value (.func f),args:=aaJ,argTypes:=ts}) (hargs:aaJ.map a.eval=args)
 (h:Calls P f args w fun e w'=> ∃v,e= .returned v/\wpList P ops Q rest (a.put N v) w'):wpList P ops Q (oi::rest) a w:=by
 refine wpList_plain hg fun K hK=>?_
 have he:=IK hf hname hb args w
 have hrun:(execOp a.eval oi).run P w= .ok (.enter f args) w:=by
  unfold execOp;simp[hop,resolve,Deferred.ofValue,invoke,Act.eval,hargs,he]
 unfold Oper.wp;rw[hrun,Oper.upon_enter];refine h.mono fun e w'' hh=>?_
 obtain⟨v,rfl,hk⟩:=hh;subst hd;exact hK _ _ hk
theorem ja(n:Int):IntKind.i64.wrap n=Go.RowKit.wrap64 n:=by unfold Go.RowKit.wrap64;exact IntKind.wrap_i64 n
theorem jf(n:Int):IntKind.i32.wrap n=Go.RowKit.wrap32 n:=by unfold Go.RowKit.wrap32;exact IntKind.wrap_i32 n
end
end Go.Proofs.Wz.bM
namespace Go.Proofs.Wz.PrintWords
open Go.RowKit
namespace Kd
def raw(sz:Nat):Kd (List Value) where
 sz:=sz
 E:= []
 K:=fun _ x cs=>cs=x/\cs.length=sz/\ ∀u∈cs,u.oneCell'=true
 M:=fun _ _ _ x cs=>cs=x/\cs.length=sz/\ ∀u∈cs,u.oneCell'=true
 mg:=fun h=>h.2.1
 kJ:=fun h=>h.2.2
 dJ:=fun _ h=>h
 iu:=fun h=>h
 fV:=fun _ h=>h
 gF:=fun h=>h
 jx:=fun _ h=>h
 mj:=fun _ h=>h
section
variable {α β:Type} {d:Kd α} {d':Kd β} {e e':Nat} {w w1 W:World} {base b:Nat} {ok ok' okv oku:Nat->Prop} {u v:Value} {xs:List α} {ys:List β}
theorem rL(hE:d.E= [])(h:d.R e w base ok v xs):d.R e w base (fun k=>some k=v.ownBlock) v xs:=by
 obtain⟨h0,inner,ho,hr⟩:=h;refine⟨fun k hk=>hk.symm,inner,ho,hr.lU (fun p c hp=>d.fV (fun k hk=>?_) (d.gF hp))⟩;obtain⟨_,_,_,q,hq,_⟩:=hk;rw[hE]at hq;cases hq
end
section
variable {α β:Type} {d:Kd α} {d':Kd β} {e e' g:Nat} {w w1 W:World} {base b:Nat} {ok ok' okv oku:Nat->Prop} {u v:Value} {xs:List α} {ys:List β}
end
section
open Classical in
variable {P:Program} {ops:Array Oper} {rest:List Oper} {o:Oper} {a:Act} {Q:Exit->Act->World->Prop} {Kc:Act->World->Prop} {α:Type}
end
section
variable {α β:Type} {d:Kd α} {e e' g n cap:Nat} {w w1 W:World} {base:Nat} {ok ok' oki kK:Nat->Prop} {u v:Value} {xs:List α} {i:Int} {c:List Value}
open Classical in
end
section
variable {P:Program} {ops:Array Oper} {rest:List Oper} {o:Oper} {a:Act} {Q:Exit->Act->World->Prop} {α:Type}
end
end Kd
end Go.Proofs.Wz.PrintWords
namespace Go.Proofs.Wz.PrintWords
open Go.RowKit
namespace Kd
theorem Ms{α:Type}{R:α->List Value->Prop}{size:Nat}{ps:List α}{cs:List Value}(h:dU R size ps cs)(hs0:0<size)(hR: ∀p c,R p c-> ∀u∈c,u.oneCell'=true): ∀u∈cs,u.oneCell'=true:=by
 intro u hu;obtain⟨q,hq,rfl⟩:=List.mem_iff_getElem.1 hu
 have Qv:q/size<ps.length:=by
  rw[Nat.div_lt_iff_lt_mul hs0,<-h.1];exact hq
 refine hR _ _ (h.2 (q/size) _ (List.getElem?_eq_getElem Qv)) _ ?_;rw[List.mem_iff_getElem?];refine⟨q%size,?_⟩;rw[List.getElem?_take,if_pos (Nat.mod_lt _ hs0),List.getElem?_drop,Nat.mul_comm,Nat.div_add_mod,List.getElem?_eq_getElem hq]
section
variable {α:Type} {n:Nat} {d:Kd α} {hs:0<d.sz} {w:World} {base:Nat} {ok:Nat->Prop} {xs:List α} {cs:List Value}
end
section
variable {α:Type} {n:Nat} {enc:α->Value} {h1: ∀x,(enc x).oneCell'=true} {hs:0<(scalar enc h1).sz} {w:World} {base:Nat} {ok:Nat->Prop} {xs:List α} {cs:List Value}
end
end Kd
end Go.Proofs.Wz.PrintWords
namespace Go.Proofs.Wz.PrintWords
open Go.RowKit
section
variable {P:Program}
theorem uZ(w:World)(base:Nat)(t ti ty e:TypeId)(i:TypeInfo)(z:Value)(size bytes:Nat)(ht:P.underlying t=some (.slice e)){k:IntKind}(Qw:P.underlying ti=some (.int k))(hi:P.info? e=some i)(hz:i.zero=some z)
 (hsize:i.size=size) (hby:i.bytes=bytes) (hzs:z.cells.size=size) (hsz:0<size) (hb0:0<bytes)
 (v:Value) (n:Nat) (xs:List Value) (hown:w.ownsRow base e size v n xs) (kx:IntKind) (m:Nat) (h1: ∀u∈(Builtin.zeroCells z.cells m).toList,u.oneCell'=true)
 (hbytes:(n+m)*bytes<=140737488355328) (hbase:base<=w.heap.size):
 ∃v' w',(Builtin.append_ #[t,ti] ty #[v,.int kx m]).run P w= .ok v' w'/\w'.ownsRow base e size v' (n+m) (xs++(Builtin.zeroCells z.cells m).toList)/\w.grownBy w' v.ownBlock/\
  (v'.ownBlock=v.ownBlock\/v'.ownBlock=some w.heap.size):=by
 subst hsize;subst hby;have hle:n+m<=140737488355328:=Nat.le_trans (Nat.le_mul_of_pos_right _ hb0) hbytes;have h63:n+m<=maxLen:=by simp only[maxLen];omega
 have hw:IntKind.i64.wrap (m:Int)=m:=by rw[IntKind.wrap_i64];omega
 have hw0:IntKind.i64.wrap 0=0:=by rw[IntKind.wrap_i64];rfl
 have hneg: ¬((m:Int)<0):=by omega
 have hmb:m*i.bytes<=140737488355328:=Nat.le_trans (Nat.mul_le_mul_right _ (Nat.le_add_left m n)) hbytes
 have WV: ¬(281474976710656<(m:Int)*(i.bytes:Int)):=by
  rw[<-Int.natCast_mul];omega
 have hsn:i.size≠0:=by omega
 obtain⟨news,hnews⟩: ∃news,news=(Builtin.zeroCells z.cells m).toList:=⟨_,rfl⟩;rw[<-hnews]at h1⊢;have hl:news.length=m*i.size:=by rw[hnews,Array.length_toList,size_zeroCells,hzs]
 have hna:Builtin.zeroCells z.cells m=news.toArray:=by rw[hnews]
 have hlen:(xs++news).length=(n+m)*i.size:=by rw[List.length_append,hown.1,hl,Nat.add_mul]
 have hnil:m=0->news= []:=fun h=>List.eq_nil_of_length_eq_zero (by rw[hl,h,Nat.zero_mul])
 have grown: ∀(old:Nat),old<n+m-> ∀(row:Option Nat),
  (w.drew.alloc (.cells (xs.toArray++news.toArray++Builtin.zeroCells z.cells (grownCap w (n+m) old e-(n+m))) e)).ownsRow base e i.size
   (.slice (some ⟨w.heap.size,0,none⟩) (n+m) (grownCap w (n+m) old e)) (n+m) (xs++news)/\
  w.grownBy (w.drew.alloc (.cells (xs.toArray++news.toArray++Builtin.zeroCells z.cells (grownCap w (n+m) old e-(n+m))) e)) row:=by
  intro old ho row;have hge:=grownCap_ge w (n+m) old e;have hcm:grownCap w (n+m) old e<=maxLen:=grownCap_le_maxLen w (n+m) old e h63;refine⟨⟨hlen,.inr ⟨w.heap.size,_,_,rfl,hbase,heap_alloc_new w.drew _,hge,hcm,?_,?_⟩⟩,⟨rfl,rfl,rfl,by simp,fun k hk _=>heap_alloc_old w.drew _ hk⟩⟩
  ·simp only[Array.size_append,List.size_toArray,size_zeroCells,hzs,hown.1,hl,<-Nat.add_mul]
   congr 1
   omega
  ·simp only[Array.toList_append,List.append_assoc]
   rw[<-List.append_assoc,<-hlen];exact List.take_left
 have runs: ∀(A:Option Addr) (cap:Nat),cap<n+m->(Builtin.firstCells i.size n (.slice A n cap)).run P w.drew= .ok xs.toArray w.drew->(Builtin.append_ #[t,ti] ty #[.slice A n cap,.int kx m]).run P w=
  .ok (.slice (some ⟨w.heap.size,0,none⟩) (n+m) (grownCap w (n+m) cap e)) (w.drew.alloc (.cells (xs.toArray++news.toArray++Builtin.zeroCells z.cells (grownCap w (n+m) cap e-(n+m))) e)):=by
  intro A cap hcap hfo;have hn: ¬(n+m<=cap):=by omega
  have h63': ¬(9223372036854775807<((n:Int)+(m:Int))):=by omega
  have hfit:=growslice_fits hcap hbytes;have TX: ¬(281474976710656<Builtin.nextslicecap (n+m) cap*i.bytes):=by omega
  by_cases hm:m=0
  ·have hnl:=hnil hm
   subst hm;rw[hnl];simp only[Nat.add_zero]at hn h63' TX⊢;have WW: ¬(9223372036854775807<(n:Int)):=by omega
   simp[Builtin.append_,run_underlying ht,run_underlying Qw,sizeOf,typeInfo,zeroValue,hi,hz,asInt,asIntOf,hw0,hn,WW,TX,Question.forced,hfo,newRow,grownCap]
  ·have hmz: ¬(m*i.size=0):=Nat.mul_ne_zero hm hsn
   simp[Builtin.append_,run_underlying ht,run_underlying Qw,sizeOf,typeInfo,zeroValue,hi,hz,asInt,asIntOf,hw,hneg,WV,hn,h63',TX,Question.forced,hfo,newRow,grownCap,hmz,hna]
   congr 2
   apply Array.ext';simp[List.append_assoc]
 rcases hown.2 with⟨rfl,rfl⟩|⟨g,cap,cur,rfl,hbg,hg,hnc,hcm,hcs,WX⟩
 ·have hx:xs= []:=List.eq_nil_of_length_eq_zero (by simpa using hown.1)
  subst hx;by_cases hm:m=0
  ·have hnl:=hnil hm
   subst hm;rw[hnl];refine⟨.slice none 0 0,w,?_,World.ownsRow_nil w base e i.size,⟨rfl,rfl,rfl,Nat.le_refl _,fun _ _ _=>rfl⟩,Or.inl rfl⟩;simp[Builtin.append_,run_underlying ht,run_underlying Qw,sizeOf,typeInfo,hi,asInt,asIntOf,hw0]
  ·have hgr:=grown 0 (by omega) (Value.ownBlock (.slice none 0 0))
   exact⟨_,_,runs none 0 (by omega) (by simp[Builtin.firstCells]),hgr.1,hgr.2,Or.inr rfl⟩
 ·by_cases hroom:n+m<=cap
  ·have hfit:n*i.size+news.length<=cur.size:=by rw[hl,hcs,<-Nat.add_mul];exact Nat.mul_le_mul_right _ hroom
   obtain⟨cur',h3,h4,h5⟩:=oP news (n*i.size) w cur hg hfit;obtain⟨s1,s2,s3,s4⟩:=nQ g news (n*i.size) w;have hst:=run_storeCells_cells (P:=P) g (n*i.size) news 0 w (fun j hj=>by rw[cell_of_row w g _ cur e (0,0) hg];simp;omega) (fun j _=>ah hg _) h1;simp only[Nat.add_zero]at hst;refine⟨.slice (some ⟨g,0,none⟩) (n+m) cap,w.setCells g (n*i.size) news,?_,⟨hlen,.inr ⟨g,cap,cur',rfl,hbg,h3,hroom,hcm,by rw[h4,hcs],?_⟩⟩,⟨s1,s2,s3,by rw[s4];exact Nat.le_refl _,fun k _ hk=>oO news _ k (fun e=>hk (by simp[Value.ownBlock,e]))⟩,Or.inl rfl⟩
   ·by_cases hm:m=0
    ·have hnl:=hnil hm
     subst hm;rw[hnl]at hst⊢;simp[Builtin.append_,run_underlying ht,run_underlying Qw,sizeOf,typeInfo,hi,asInt,asIntOf,hw0,hnc,add_plain,hst]
    ·have hmz: ¬(m*i.size=0):=Nat.mul_ne_zero hm hsn
     simp[Builtin.append_,run_underlying ht,run_underlying Qw,sizeOf,typeInfo,zeroValue,hi,hz,asInt,asIntOf,hw,hneg,WV,hroom,hmz,hna,add_plain,hst]
   ·rw[h5]
    have h6:cur.toList.take (n*i.size)=xs:=WX;rw[h6,<-hlen];exact List.take_left
  ·have holds: ∀j u,xs[j]? =some u->w.cell? ((⟨g,0,none⟩:Addr).add j)=some u:=hown.cells (g:=g) rfl
   have hgr:=grown cap (by omega) (Value.ownBlock (.slice (some ⟨g,0,none⟩) n cap));exact⟨_,_,runs (some ⟨g,0,none⟩) cap (by omega) (run_firstCells_some (P:=P) w.drew i.size n _ n cap xs hown.1 (by simpa using holds)),hgr.1,hgr.2,Or.inr rfl⟩
end
namespace Kd
theorem GG{α:Type}{R:α->List Value->Prop}{z:Value}{size:Nat}{z0:α}(hz:z.cells.size=size)(hs:0<size)(h0:R z0 z.cells.toList)(m:Nat):dU R size (List.replicate m z0) (Builtin.zeroCells z.cells m).toList:=by
 have h:=JU hz hs h0 m;rw[show Builtin.zeroCells z.cells m=madeCells z.cells (m*size) by unfold Builtin.zeroCells madeCells;rw[hz]];exact h
section
variable {P:Program} {ops:Array Oper} {rest:List Oper} {o:Oper} {a:Act} {Q:Exit->Act->World->Prop} {Kc:Act->World->Prop} {α:Type}
theorem Ek(d:Kd α){W:World}(base:Nat)(t ti ty e:TypeId)(z:Value)(bytes:Nat)(ht:P.underlying t=some (.slice e)){k:IntKind}(Qw:P.underlying ti=some (.int k))(hinfo:(P.info? e).map (fun i=>(i.zero,i.size,i.bytes))=some (some z,d.sz,bytes))(hz:z.cells.size=d.sz)(hs0:0<d.sz)(hb0:0<bytes)
 (v:Value) (xs:List α) (z0:α) {ok:Nat->Prop} (hzero:d.M W base (fun _=>False) z0 z.cells.toList) (gB: ∀k,W.heap.size<=k->ok k) (HO:d.R e W base ok v xs) (kx:IntKind) (n:Int) (h0:0<=n) (hl:(xs.length+n.toNat)*bytes<=140737488355328) (hbase:base<=W.heap.size):
 ∃v1 w1,(Builtin.append_ #[t,ti] ty #[v,.int kx n]).run P W= .ok v1 w1/\d.R e w1 base ok v1 (xs++List.replicate n.toNat z0)/\W.grownBy w1 v.ownBlock/\(v1.ownBlock=v.ownBlock\/ ∃b,v1.ownBlock=some b/\W.heap.size<=b):=by
 obtain⟨m,rfl⟩:=Int.eq_ofNat_of_zero_le h0;simp only[Int.toNat_natCast]at hl⊢;obtain⟨i0,hi,hzz⟩:=Option.map_eq_some_iff.1 hinfo;simp only[Prod.mk.injEq]at hzz;obtain⟨hz0,hz1,hz2⟩:=hzz;obtain⟨hok,inner,hown,hr⟩:=HO;have L1:dU (d.M W base (fun _=>False)) d.sz (List.replicate m z0) (Builtin.zeroCells z.cells m).toList:=GG hz hs0 hzero m;obtain⟨v1,w1,hrun,h2,hg,hat⟩:=uZ (P:=P) W base t ti ty e i0 z d.sz bytes ht Qw hi hz0 hz1 hz2 hz hs0 hb0 v xs.length inner hown kx m (Ms L1 hs0 (fun _ _ hp=>d.kJ (d.iu hp))) hl hbase
 have hat':v1.ownBlock=v.ownBlock\/ ∃b,v1.ownBlock=some b/\W.heap.size<=b:=by
  rcases hat with hat|hat
  ·exact .inl hat
  ·exact .inr ⟨_,hat,Nat.le_refl _⟩
 have hne: ∀k,some k≠v.ownBlock->k<W.heap.size->some k≠v1.ownBlock:=by
  intro k hk bI;rcases hat' with hat|⟨b,hb,hle⟩
  ·rw[hat];exact hk
  ·rw[hb]
   intro he;injection he with he;omega
 have step: ∀ {q:α} {c:List Value} {o:Nat->Prop},d.M W base o q c->(∀k,o k->ok k/\some k≠v.ownBlock)->d.M w1 base (fun k=>ok k/\some k≠v1.ownBlock) q c:=by
  intro q c o hq ho;have h1:=d.jx (w1:=w1) (fun k hk=>hg.block k hk.2.2.1 (ho k hk.1).2) (d.gF hq);exact d.fV (fun k hk=>⟨(ho k hk.1).1,hne k (ho k hk.1).2 hk.2.2.1⟩) h1
 refine⟨v1,w1,hrun,⟨fun k hk=>?_,inner++(Builtin.zeroCells z.cells m).toList,by rw[List.length_append,List.length_replicate];exact h2,qA (hr.lU (fun _ _ hq=>step hq (fun _ hk=>hk))) (L1.lU (fun _ _ hq=>step hq (fun _ hk=>hk.elim)))⟩,hg,hat'⟩;rcases hat' with hat|⟨b,hb,hle⟩
 ·exact hok k (hat▸hk)
 ·rw[hb]at hk
  injection hk with hk;exact gB k (by omega)
theorem yx(d:Kd α){w0 W:World}(base:Nat)(hgd:o.guard=none)(s x:Operand)(t ti e:TypeId)(z:Value)(bytes:Nat)
 (ho:o.op= .call {callee:= .builtin .append,args:=#[s,x],argTypes:=#[t,ti]})
 (ht:P.underlying t=some (.slice e)) {k:IntKind} (Qw:P.underlying ti=some (.int k)) (hinfo:(P.info? e).map (fun i=>(i.zero,i.size,i.bytes))=some (some z,d.sz,bytes)) (hz:z.cells.size=d.sz) (hs0:0<d.sz) (hb0:0<bytes)
 (v:Value) (xs:List α) (z0:α) {kx:IntKind} (n:Int) (ok:Nat->Prop) (hs:a.eval s=v) (hx:a.eval x= .int kx n) (hzero:d.M W base (fun _=>False) z0 z.cells.toList) (gB: ∀k,W.heap.size<=k->ok k)
 (HO:d.R e W base ok v xs) (h0:0<=n) (HB:Below base w0 W) (hbase:base<=W.heap.size) (hl:(xs.length+n.toNat)*bytes<=140737488355328)
 (h: ∀v1 w1,d.R e w1 base ok v1 (xs++List.replicate n.toNat z0)->Below base w0 w1->W.grownBy w1 v.ownBlock->(v1.ownBlock=v.ownBlock\/ ∃b,v1.ownBlock=some b/\W.heap.size<=b)->wpList P ops Q rest (a.put o.dst v1) w1):
 wpList P ops Q (o::rest) a W:=by
 obtain⟨v1,w1,hr1,h1,hg,hat⟩:=Ek (P:=P) d base t ti o.type e z bytes ht Qw hinfo hz hs0 hb0 v xs z0 hzero gB HO kx n h0 hl hbase;refine wpList_plain hgd fun K hK=>?_
 unfold Oper.wp execOp;simp only[ho,resolve,invoke,builtin,Sem.run_bind,Sem.run_pure,Result.andThen_ok,List.map_toArray,List.map_cons,List.map_nil,hs,hx,hr1];exact hK _ _ (h v1 w1 h1 (HB.grown hg hbase (iW HO)) hg hat)
end
section
variable {α:Type} {d:Kd α} {e:Nat} {w:World} {base:Nat} {ok:Nat->Prop} {v:Value} {xs:List α}
end
section
variable {P:Program} {ops:Array Oper} {rest:List Oper} {o:Oper} {a:Act} {Q:Exit->Act->World->Prop} {Kc:Act->World->Prop} {α:Type}
end
end Kd
end Go.Proofs.Wz.PrintWords
namespace Go.Proofs.Wz.PrintWords
open Go.RowKit
namespace Kd
structure Heap{α:Type}(d:Kd α):Prop where
 K: ∀ {w w1:World} {x:α} {cs:List Value},(∀k,k<w.heap.size->w1.heap[k]? =w.heap[k]?)->d.K w x cs->d.K w1 x cs
theorem JY{w w1:World}(hb: ∀k,k<w.heap.size->w1.heap[k]? =w.heap[k]?){a:Addr}{v:Value}(h:w.cell? a=some v):w1.cell? a=some v:=by
 have:=hb a.block (World.block_lt_of_cell? w a h);simpa[World.cell?,this]using h
theorem Heap.C{α:Type}{d:Kd α}(hd:Heap d){w w1:World}{A:Option Addr}{n:Nat}{xs:List α}(hb: ∀k,k<w.heap.size->w1.heap[k]? =w.heap[k]?)(h:d.C w A n xs):d.C w1 A n xs:=
 ⟨h.1,h.2.1,fun hn=>by
  obtain⟨ad,e,hc⟩:=h.2.2 hn;refine⟨ad,e,fun j p hj=>?_⟩;obtain⟨c,hs,hr,hcell⟩:=hc j p hj;exact⟨c,hs,hd.K hb hr,fun i u hu=>JY hb (hcell i u hu)⟩⟩
theorem eM(k:IntKind):Heap (Kd.int k):=⟨fun _ h=>h⟩
theorem Bp:Heap Kd.bool:=⟨fun _ h=>h⟩
theorem nH:Heap Kd.string:=⟨fun _ h=>h⟩
theorem fA{α:Type}{d:Kd α}(e:Nat)(hd:Heap d):Heap (slice e d):=⟨by
 rintro w w1 x cs hb⟨A,c,rfl,hl,hr⟩;exact⟨A,c,rfl,hl,hd.C hb hr⟩⟩
theorem cF{α β:Type}{a:Kd α}{b:Kd β}(ha:Heap a)(hb':Heap b):Heap (pair a b):=⟨by
 rintro w w1 x cs hb⟨c0,c1,rfl,h0,h1⟩;exact⟨c0,c1,rfl,ha.K hb h0,hb'.K hb h1⟩⟩
theorem jE{α β:Type}{d:Kd α}(f:β->α)(hd:Heap d):Heap (Gy d f):=⟨fun hb h=>hd.K hb h⟩
section
variable {α:Type} {d:Kd α} {e base g n c:Nat} {ok:Nat->Prop} {w w0 W:World} {A:Option Addr} {xs:List α}
end
end Kd
end Go.Proofs.Wz.PrintWords
namespace Go.Proofs.Wz.PrintWords
open Go.RowKit
def nB(P:World->Prop)(W:World)(ok:Nat->Prop):Prop:= ∀W':World,(∀k,ok k->k<W.heap.size->W'.heap[k]? =W.heap[k]?)->P W'
theorem Qx{W W1:World}{k:Nat}(h:W1.heap[k]? =W.heap[k]?)(bI:k<W.heap.size):k<W1.heap.size:=by
 rw[Array.getElem?_eq_getElem bI]at h;exact(Array.getElem?_eq_some_iff.1 h).1
namespace nB
variable {P Q:World->Prop} {W W1:World} {ok ok':Nat->Prop}
theorem now(h:nB P W ok):P W:=h W (fun _ _ _=>rfl)
theorem mono(h:nB P W ok)(hok: ∀k,ok k->ok' k):nB P W ok':=fun W' hW=>h W' (fun k hk bI=>hW k (hok k hk) bI)
theorem bound(h:nB P W ok):nB P W (fun k=>ok k/\k<W.heap.size):=fun W' hW=>h W' (fun k hk bI=>hW k ⟨hk,bI⟩ bI)
theorem step(h:nB P W ok)(hm: ∀k,ok k->k<W.heap.size->W1.heap[k]? =W.heap[k]?):nB P W1 ok:=fun W' hW=>h W' (fun k hk bI=>(hW k hk (Qx (hm k hk bI) bI)).trans (hm k hk bI))
theorem imp(h:nB P W ok)(hi: ∀W',P W'->Q W'):nB Q W ok:=fun W' hW=>hi W' (h W' hW)
end nB
namespace Kd
def F{α:Type}(d:Kd α)(W:World)(ok:Nat->Prop)(A:Option Addr)(n:Nat)(xs:List α):Prop:=nB (fun W=>d.C W A n xs) W ok
def FK{α:Type}(d:Kd α)(W:World)(ok:Nat->Prop)(x:α)(c:List Value):Prop:=nB (fun W=>d.K W x c) W ok
section
variable {α β:Type} {d:Kd α} {e base n n' cc g N:Nat} {ok ok' kK S:Nat->Prop} {w w0 w1 W W1:World} {A A':Option Addr} {u v v1:Value} {xs:List α} {xs':List β} {d':Kd β} {x:α} {c:List Value}
theorem Mt(h:F d W ok A n xs):d.C W A n xs:=nB.now h
theorem Cx(h:F d W ok A n xs)(hok: ∀k,ok k->ok' k):F d W ok' A n xs:=nB.mono h hok
theorem rM(h:F d W ok A n xs):F d W (fun k=>ok k/\k<W.heap.size) A n xs:=nB.bound h
theorem TY(h:F d W ok A n xs)(hm: ∀k,ok k->k<W.heap.size->W1.heap[k]? =W.heap[k]?):F d W1 ok A n xs:=nB.step h hm
theorem SP(h:F d W ok A n xs)(hi: ∀W',d.C W' A n xs->d'.C W' A' n' xs'):F d' W ok A' n' xs':=nB.imp h hi
theorem bS(h:F d W ok A n xs)(hb:Below W.heap.size W W1):F d W1 ok A n xs:=TY h (fun k _ bI=>hb.block k bI)
theorem tI(h:F d W ok A n xs)(o:Obj):F d (W.alloc o) ok A n xs:=bS h (af (Below.refl _ _) o)
theorem mS(h:F d W ok A n xs):F d W.drew ok A n xs:=bS h (aX (Below.refl _ _))
theorem C_F(hd:Heap d)(h:d.C w A n xs):F d w (fun k=>k<w.heap.size) A n xs:=fun _ hW=>hd.C (fun k bI=>hW k bI bI) h
theorem R_F(h:d.R e W base ok (.slice A n cc) xs):F d W ok A n xs:=fun W' hW=>by
 have h2:=bA (oM h hW);rw[h2.1];exact h2.2.2
theorem jO(h:FK d W ok x c):d.K W x c:=nB.now h
theorem jK(h:FK d W ok x c)(hok: ∀k,ok k->ok' k):FK d W ok' x c:=nB.mono h hok
theorem oo(h:FK d W ok x c):FK d W (fun k=>ok k/\k<W.heap.size) x c:=nB.bound h
theorem dK(h:FK d W ok x c)(hm: ∀k,ok k->k<W.heap.size->W1.heap[k]? =W.heap[k]?):FK d W1 ok x c:=nB.step h hm
theorem tJ(h:FK d W ok x c)(hb:Below W.heap.size W W1):FK d W1 ok x c:=dK h (fun k _ bI=>hb.block k bI)
theorem IL(h:d.M W base ok x c):FK d W ok x c:=fun _ hW=>d.iu (Mk h hW)
theorem Qy(W:World)(g:Nat): ∃W':World,(∀k,k≠g->W'.heap[k]? =W.heap[k]?)/\ ∀a:Addr,a.block=g->W'.cell? a=none:=by
 refine⟨{W with heap:=W.heap.setIfInBounds g (.cells #[] 0)},fun k hk=>by simp[Ne.symm hk],fun a ha=>?_⟩;subst ha;by_cases bI:a.block<W.heap.size
 ·simp[World.cell?,bI]
 ·simp[World.cell?,bI]
end
end Kd
end Go.Proofs.Wz.PrintWords
namespace Go.Proofs.Wz.PrintWords
open Go.RowKit
namespace Kd
def chunks(sz:Nat)(n:Nat)(inner:List Value):List (List Value):=(List.range n).map fun j=>(inner.drop (j*sz)).take sz
theorem gi(sz n:Nat)(inner:List Value):(chunks sz n inner).length=n:=by simp[chunks]
theorem JZ{sz n:Nat}{inner:List Value}{j:Nat}(hj:j<n):(chunks sz n inner)[j]? =some ((inner.drop (j*sz)).take sz):=by simp[chunks,hj]
theorem oQ{sz n:Nat}{inner:List Value}{j:Nat}{c:List Value}(h:(chunks sz n inner)[j]? =some c):c=(inner.drop (j*sz)).take sz:=by
 have hj:j<n:=by have:=(List.getElem?_eq_some_iff.1 h).1;rwa[gi]at this
 rw[JZ hj]at h;injection h with h;exact h.symm
theorem Mu{α:Type}{Rr:α->List Value->Prop}{sz:Nat}{xs:List α}{inner:List Value}(h:dU Rr sz xs inner)(hR: ∀x c,Rr x c->c.length=sz/\ ∀u∈c,u.oneCell'=true):dU (fun x cs=>cs=x/\cs.length=sz/\ ∀u∈cs,u.oneCell'=true) sz (chunks sz xs.length inner) inner:=by
 refine⟨by rw[gi];exact h.1,fun j p hj=>?_⟩;have hjl:j<xs.length:=by have:=(List.getElem?_eq_some_iff.1 hj).1;rwa[gi]at this
 have hp:=oQ hj;exact⟨hp.symm,hR _ _ (h.2 j _ (List.getElem?_eq_getElem hjl))⟩
section
variable {α:Type} {d:Kd α} {e base n cc g:Nat} {ok ok' kK S:Nat->Prop} {w w1 W W1:World} {A:Option Addr} {u v v1:Value} {xs:List α} {x:α} {c:List Value}
theorem WY(h:F d W ok A n xs)(z:α)(i:Int)(h0:0<=i)(h1:i<n):
 ∃ad c,A=some ad/\c.length=d.sz/\FK d W ok (xs.getD i.toNat z) c/\(∀j u,c[j]? =some u->W.cell? (ad.add (i.toNat*d.sz+j))=some u)/\(0<d.sz->ok ad.block):=by
 obtain⟨ad,c,rfl,lJ,hK,hcc⟩:=og (Mt h) z i h0 h1
 have hin:0<d.sz->ok ad.block:=by
  intro hs;by_cases hk:ok ad.block
  ·exact hk
  ·obtain⟨W',h2,h3⟩:=Qy W ad.block
   obtain⟨ad',c',he,abD,_,TZ⟩:=og (h W' (fun k hk' _=>h2 k (fun e=>hk (e▸hk')))) z i h0 h1;injection he with he;subst he;have h4:=TZ 0 _ (List.getElem?_eq_getElem (by omega));rw[h3 _ (add_block _ _)]at h4;cases h4
 refine⟨ad,c,rfl,lJ,fun W' hW=>?_,hcc,hin⟩;obtain⟨ad',c',he,abD,hK',TZ⟩:=og (h W' hW) z i h0 h1;injection he with he;subst he
 have hc:c=c':=by
  apply List.ext_getElem?;intro j;by_cases hj:j<d.sz
  ·have hb:W'.heap[ad.block]? =W.heap[ad.block]? :=by
    have h5:=hcc j _ (List.getElem?_eq_getElem (by omega));have h6:=World.block_lt_of_cell? W _ h5;rw[add_block]at h6;exact hW _ (hin (by omega)) h6
   have h5:=hcc j _ (List.getElem?_eq_getElem (by omega));have h6:=TZ j _ (List.getElem?_eq_getElem (by omega));have h7:W'.cell? (ad.add (i.toNat*d.sz+j))=W.cell? (ad.add (i.toNat*d.sz+j)):=by simp[World.cell?,add_block,hb]
   rw[h7,h5]at h6;rw[List.getElem?_eq_getElem (by omega),List.getElem?_eq_getElem (by omega)];exact h6
  ·rw[List.getElem?_eq_none (by omega),List.getElem?_eq_none (by omega)]
 rw[hc];exact hK'
theorem Mw(h:F d W ok A n xs):eu (fun x c=>FK d W ok x c) d.sz W A n xs:=by
 obtain⟨hl,hm,hn⟩:=Mt h;refine⟨hl,hm,fun hp=>?_⟩;obtain⟨ad,rfl,_⟩:=hn hp;refine⟨ad,rfl,fun j p hj=>?_⟩;obtain⟨hjl,hjp⟩:=List.getElem?_eq_some_iff.1 hj;obtain⟨ad',c,he,lJ,hK,hcc,_⟩:=WY h p (j:Int) (by omega) (by omega);injection he with he;subst he;simp only[Int.toNat_natCast]at hK hcc;rw[List.getD_eq_getElem?_getD,hj]at hK;exact⟨c,lJ,hK,hcc⟩
def N{α:Type}(d:Kd α)(e:Nat)(w:World)(base:Nat)(ok:Nat->Prop)(v:Value)(xs:List α):Prop:=
 (∀k,v.ownBlock=some k->ok k)/\ ∃rows:List (List Value),rows.length=xs.length/\(raw d.sz).R e w base (fun k=>some k=v.ownBlock) v rows/\ ∀(j:Nat) (x:α) (c:List Value),xs[j]? =some x->rows[j]? =some c->FK d w (fun k=>ok k/\some k≠v.ownBlock) x c
theorem ve{sz:Nat}{rows:List (List Value)}(h:(raw sz).R e w base ok v rows):(raw sz).R e w base (fun k=>some k=v.ownBlock) v rows:=rL rfl h
theorem tK{sz:Nat}{rows:List (List Value)}(h:(raw sz).R e w base ok v rows):(raw sz).R e w base (fun _=>True) v rows:=bQ h (fun _ _=>trivial)
theorem R_N(h:d.R e w base ok v xs):N d e w base ok v xs:=by
 obtain⟨h0,inner,ho,hr⟩:=h;refine⟨h0,chunks d.sz xs.length inner,gi _ _ _,⟨fun k hk=>hk.symm,inner,by rw[gi];exact ho,Mu hr (fun x c hp=>⟨d.mg (d.iu hp),d.kJ (d.iu hp)⟩)⟩,fun j x c hx hc=>?_⟩;rw[oQ hc];exact IL (hr.2 j x hx)
theorem WZ(d:Kd α)(e:Nat)(w:World)(base:Nat)(ok:Nat->Prop):N d e w base ok (.slice none 0 0) []:=R_N (fS _ _ _ _ _)
theorem mU(h:N d e w base ok v xs)(hok: ∀k,ok k->ok' k):N d e w base ok' v xs:=by
 obtain⟨h0,rows,hl,hR,hf⟩:=h;exact⟨fun k hk=>hok k (h0 k hk),rows,hl,hR,fun j x c hx hc=>jK (hf j x c hx hc) (fun k hk=>⟨hok k hk.1,hk.2⟩)⟩
theorem J1(h:N d e w base ok v xs): ∀k,v.ownBlock=some k->k<w.heap.size:=by
 obtain⟨_,rows,_,hR,_⟩:=h;exact gY hR
theorem GH(h:N d e w base ok v xs): ∀k,v.ownBlock=some k->base<=k:=by
 obtain⟨_,rows,_,hR,_⟩:=h;exact iW hR
theorem Mx(h:N d e w base ok v xs){t:Nat}{cells:Array Value}(hb:w.heap[g]? =some (.cells cells t (0,0)))(ht:e≠t):some g≠v.ownBlock:=by
 obtain⟨_,rows,_,hR,_⟩:=h;exact kr hR hb ht
theorem Cy(h:N d e w base ok v xs):N d e w base (fun k=>ok k/\k<w.heap.size) v xs:=by
 have bI:=J1 h;obtain⟨h0,rows,hl,hR,hf⟩:=h;exact⟨fun k hk=>⟨h0 k hk,bI k hk⟩,rows,hl,hR,fun j x c hx hc=>jK (oo (hf j x c hx hc)) (fun k hk=>⟨⟨hk.1.1,hk.2⟩,hk.1.2⟩)⟩
theorem Qz{base':Nat}(h:N d e w base ok v xs)(hb:base'<=base):N d e w base' ok v xs:=by
 obtain⟨h0,rows,hl,hR,hf⟩:=h;exact⟨h0,rows,hl,eH hR hb,hf⟩
theorem qB(h:N d e w base ok v xs)(hm: ∀k,ok k->k<w.heap.size->w1.heap[k]? =w.heap[k]?):N d e w1 base ok v xs:=by
 obtain⟨h0,rows,hl,hR,hf⟩:=h;exact⟨h0,rows,hl,oM hR (fun k hk bI=>hm k (h0 k hk.symm) bI),fun j x c hx hc=>dK (hf j x c hx hc) (fun k hk bI=>hm k hk.1 bI)⟩
theorem oT(h:N d e w base ok v xs)(hb:Below w.heap.size w w1):N d e w1 base ok v xs:=qB h (fun k _ hk=>hb.block k hk)
theorem Cz(h:N d e w base ok v xs)(o:Obj):N d e (w.alloc o) base ok v xs:=oT h (af (Below.refl _ _) o)
theorem CA(h:N d e w base ok v xs):N d e w.drew base ok v xs:=oT h (aX (Below.refl _ _))
theorem My(h:N d e w base ok v xs){p:Addr}(hok: ∀k,ok k->k≠p.block)(u:Value):N d e (w.setCell p u) base ok v xs:=qB h (fun k ho _=>Below.heap_setCell w p u k (hok k ho))
theorem Mz(h:N d e w base ok v xs)(a:Nat)(ha:w.heap.size<=a):N d e w base (fun k=>ok k/\k≠a) v xs:=mU (Cy h) (fun k hk=>⟨hk.1,by have:=hk.2;omega⟩)
theorem cg(h:N d e w base ok v xs): ∃A c,v= .slice A xs.length c:=by
 obtain⟨_,rows,hl,hR,_⟩:=h;obtain⟨A,c,he⟩:=ai hR;exact⟨A,c,by rw[he,hl]⟩
theorem yy(h:N d e w base ok v xs)(hp:0<xs.length): ∃g cap,v= .slice (some ⟨g,0,none⟩) xs.length cap/\base<=g/\g<w.heap.size/\ ∃cells,w.heap[g]? =some (.cells cells e (0,0)):=by
 obtain⟨_,rows,hl,hR,_⟩:=h;rw[<-hl]at hp⊢;exact qz hR hp
theorem eN{n c:Nat}(h:N d e w base ok (.slice A n c) xs):n=xs.length/\n<=c/\d.C w A xs.length xs:=by
 obtain⟨_,rows,hl,hR,hf⟩:=h;obtain⟨hn,hc,hC⟩:=bA hR;refine⟨by omega,hc,?_⟩;rw[hl]at hC;refine⟨rfl,hC.2.1,fun hp=>?_⟩;obtain⟨ad,he,hcell⟩:=hC.2.2 hp;refine⟨ad,he,fun j p hj=>?_⟩;have hjl:j<rows.length:=by have:=(List.getElem?_eq_some_iff.1 hj).1;omega
 obtain⟨c',lJ,hK,hcc⟩:=hcell j _ (List.getElem?_eq_getElem hjl);have hk:=jO (hf j p _ hj (List.getElem?_eq_getElem hjl));refine⟨c',lJ,?_,hcc⟩;rw[show c'=rows[j]from hK.1];exact hk
theorem J2{n:Nat}(h:N d e w base ok (.slice A n cc) xs):F d w ok A n xs:=fun W' hW=>by
 have h2:=eN (qB h hW);rw[h2.1];exact h2.2.2
theorem GI{n cap:Nat}(h:N d e W base ok (.slice (some ⟨g,0,none⟩) n cap) xs)(z:α)(i:Int)(h0:0<=i)(h1:i<n):
 ∃c,c.length=d.sz/\FK d W (fun k=>ok k/\k≠g) (xs.getD i.toNat z) c/\(∀j u,c[j]? =some u->W.cell? ⟨g,i.toNat*d.sz+j,none⟩=some u)/\ ∀j,W.frozen? ⟨g,i.toNat*d.sz+j,none⟩=false:=by
 obtain⟨_,rows,hl,hR,hf⟩:=h;have hn:=(bA hR).1;obtain⟨c,lJ,hM,hcc,hfr⟩:=kR hR [] i h0 h1;have hil:i.toNat<rows.length:=by omega
 have Xa:i.toNat<xs.length:=by omega
 have hc:c=rows[i.toNat]:=by
  have h2:=hM.1
  rwa[List.getD_eq_getElem?_getD,List.getElem?_eq_getElem hil]at h2
 refine⟨c,lJ,?_,hcc,hfr⟩;rw[List.getD_eq_getElem?_getD,List.getElem?_eq_getElem Xa];exact jK (hf _ _ _ (List.getElem?_eq_getElem Xa) (by rw[hc];exact List.getElem?_eq_getElem hil)) (fun k hk=>⟨hk.1,fun he=>hk.2 (by rw[he];simp[Value.ownBlock])⟩)
end
end Kd
end Go.Proofs.Wz.PrintWords
namespace Go.Proofs.Wz.PrintWords
theorem dU.front{α:Type}{R:α->List Value->Prop}{size:Nat}{ps:List α}{cs c all:List Value}{p:α}(hp:R p c)(hc:c.length=size)(h:dU R size ps cs)(ha:c++cs=all):dU R size (p::ps) all:=by
 subst ha;refine⟨by rw[List.length_append,hc,h.1,List.length_cons,Nat.succ_mul,Nat.add_comm],fun j q hq=>?_⟩;cases j with
 |zero=>
  simp only[List.getElem?_cons_zero,Option.some.injEq]at hq;subst hq;rw[Nat.zero_mul,List.drop_zero,List.take_append_of_le_length (by omega),List.take_of_length_le (by omega)];exact hp
 |succ j=>
  simp only[List.getElem?_cons_succ]at hq;have h1:=h.2 j q hq;rw[Nat.succ_mul,List.drop_append,List.drop_of_length_le (by rw[hc];exact Nat.le_add_left _ _),List.nil_append,hc,Nat.add_sub_cancel];exact h1
theorem dU.c4{α:Type}{R:α->List Value->Prop}{ps:List α}{cs:List Value}{p:α}{va vb vc vd:Value}(hp:R p [va,vb,vc,vd])(h:dU R 4 ps cs):dU R 4 (p::ps) (va::vb::vc::vd::cs):=dU.front hp rfl h rfl
end Go.Proofs.Wz.PrintWords
namespace Go.Proofs.Wz.PrintWords
open Go.RowKit
section
variable {P:Program} {ops:Array Oper} {rest:List Oper} {o:Oper} {a:Act} {Q:Exit->Act->World->Prop} {W:World}
theorem sI(hw:Region.wanted o (yielded ops a.tmps)=true)(h:wpList P ops Q ({o with guard:=none}::rest) a W):wpList P ops Q (o::rest) a W:=by
 have h1:Region.wanted {o with guard:=none} (yielded ops a.tmps)=true:=rfl;unfold wpList at h⊢;rw[if_pos h1]at h;rw[if_pos hw];exact h
end
end Go.Proofs.Wz.PrintWords
namespace Go.Proofs.Wz.PrintWords
open Go.RowKit
namespace Kd
section
variable {α:Type} {d:Kd α} {e base n cap g:Nat} {ok ok' kK:Nat->Prop} {w w1 W:World} {v v1:Value} {xs ys:List α}
theorem sJ{rows news:List (List Value)}(h0: ∀k,v.ownBlock=some k->ok k)(hl:rows.length=xs.length)(hf: ∀(j:Nat) (x:α) (c:List Value),xs[j]? =some x->rows[j]? =some c->FK d W (fun k=>ok k/\some k≠v.ownBlock) x c)
 (hl2:news.length=ys.length) (hf2: ∀(j:Nat) (x:α) (c:List Value),ys[j]? =some x->news[j]? =some c->FK d W kK x c) (kP: ∀k,kK k->ok k/\some k≠v.ownBlock) (gB: ∀k,W.heap.size<=k->ok k)
 (hR:(raw d.sz).R e w1 base (fun _=>True) v1 (rows++news)) (hg:W.grownBy w1 v.ownBlock) (hat:v1.ownBlock=v.ownBlock\/ ∃b,v1.ownBlock=some b/\W.heap.size<=b):N d e w1 base ok v1 (xs++ys):=by
 have hne: ∀k,some k≠v.ownBlock->k<W.heap.size->some k≠v1.ownBlock:=by
  intro k hk bI;rcases hat with hat|⟨b,hb,hle⟩
  ·rw[hat];exact hk
  ·rw[hb]
   intro he;injection he with he;omega
 have step: ∀ {x:α} {c:List Value} {o:Nat->Prop},FK d W o x c->(∀k,o k->ok k/\some k≠v.ownBlock)->FK d w1 (fun k=>ok k/\some k≠v1.ownBlock) x c:=by
  intro x c o hq ho;exact jK (dK (oo hq) (fun k hk bI=>hg.block k bI (ho k hk.1).2)) (fun k hk=>⟨(ho k hk.1).1,hne k (ho k hk.1).2 hk.2⟩)
 refine⟨fun k hk=>?_,rows++news,by rw[List.length_append,List.length_append,hl,hl2],ve hR,fun j x c hx hc=>?_⟩
 ·rcases hat with hat|⟨b,hb,hle⟩
  ·exact h0 k (hat▸hk)
  ·rw[hb]at hk
   injection hk with hk;exact gB k (by omega)
 ·rcases Nat.lt_or_ge j xs.length with bI|hge
  ·rw[List.getElem?_append_left bI]at hx
   rw[List.getElem?_append_left (by omega)]at hc;exact step (hf j x c hx hc) (fun _ hk=>hk)
  ·rw[List.getElem?_append_right hge]at hx
   rw[List.getElem?_append_right (by omega),hl]at hc;exact step (hf2 _ x c hx hc) kP
theorem T3{x:α}{c:List Value}(h:FK d W ok x c):c=c/\c.length=d.sz/\ ∀u∈c,u.oneCell'=true:=⟨rfl,d.mg (jO h),d.kJ (jO h)⟩
theorem J3{rows:List (List Value)}{i:Int}{x':α}{c':List Value}(h0: ∀k,(Value.slice (some ⟨g,0,none⟩) n cap).ownBlock=some k->ok k)(hl:rows.length=xs.length)(hf: ∀(j:Nat) (x:α) (c:List Value),xs[j]? =some x->rows[j]? =some c->FK d W (fun k=>ok k/\some k≠(Value.slice (some ⟨g,0,none⟩) n cap).ownBlock) x c)
 (hR:(raw d.sz).R e w1 base (fun _=>True) (.slice (some ⟨g,0,none⟩) n cap) (rows.set i.toNat c')) (hg:W.grownBy w1 (some g)) (hM:FK d W kK x' c') (kP: ∀k,kK k->ok k/\k≠g):N d e w1 base ok (.slice (some ⟨g,0,none⟩) n cap) (xs.set i.toNat x'):=by
 have hgo:some g=(Value.slice (some ⟨g,0,none⟩) n cap).ownBlock:=by simp[Value.ownBlock]
 refine⟨h0,rows.set i.toNat c',by rw[List.length_set,List.length_set,hl],ve hR,fun j x c hx hc=>?_⟩;have hjl:j<xs.length:=by have:=(List.getElem?_eq_some_iff.1 hx).1;rwa[List.length_set]at this
 by_cases hji:j=i.toNat
 ·subst hji
  rw[List.getElem?_set_self hjl]at hx;rw[List.getElem?_set_self (by omega)]at hc;injection hx with hx;injection hc with hc;rw[<-hx,<-hc];exact jK (dK hM (fun k hk bI=>hg.block k bI (fun he=>(kP k hk).2 (by injection he)))) (fun k hk=>⟨(kP k hk).1,fun he=>(kP k hk).2 (by rw[<-hgo]at he;injection he)⟩)
 ·rw[List.getElem?_set_ne (Ne.symm hji)]at hx hc
  exact dK (hf j x c hx hc) (fun k hk bI=>hg.block k bI (by rw[hgo];exact hk.2))
theorem T4{A:Option Addr}{m c:Nat}(h:N d e w base ok (.slice A n c) xs)(hm:m<=xs.length):N d e w base ok (.slice A m c) (xs.take m):=by
 obtain⟨h0,rows,hl,hR,hf⟩:=h
 have hb: ∀x y:Nat,(Value.slice A x c).ownBlock=(Value.slice A y c).ownBlock:=by
  intro x y;cases A<;>rfl
 refine⟨fun k hk=>h0 k (by rw[hb _ m];exact hk),rows.take m,by rw[List.length_take,List.length_take,hl],ve (nR (tK hR) (by omega)),fun j x c' hx hc=>?_⟩;rw[List.getElem?_take]at hx hc
 split at hx
 ·rename_i hj
  rw[if_pos hj]at hc;rw[hb m n];exact hf j x c' hx hc
 ·cases hx
theorem Bq(h:N d e W base ok (.slice (some ⟨g,0,none⟩) n cap) xs)(i:Int)(h0:0<=i)(h1:i<n){c seg:List Value}{j:Nat}(lJ:c.length=d.sz)(hcc: ∀j u,c[j]? =some u->W.cell? ⟨g,i.toNat*d.sz+j,none⟩=some u)
 (hj:j+seg.length<=d.sz) {x':α} (hM:FK d W kK x' (c.take j++seg++c.drop (j+seg.length))) (kP: ∀k,kK k->ok k/\k≠g):
 N d e (W.setCells g (i.toNat*d.sz+j) seg) base ok (.slice (some ⟨g,0,none⟩) n cap) (xs.set i.toNat x')/\W.grownBy (W.setCells g (i.toNat*d.sz+j) seg) (some g):=by
 obtain⟨hown,rows,hl,hR,hf⟩:=h;obtain⟨h2,h3⟩:=IJ (tK hR) i h0 h1 (c:=c) (seg:=seg) (j:=j) (x':=c.take j++seg++c.drop (j+seg.length)) (kK:=fun _=>False) lJ hcc hj ⟨rfl,d.mg (jO hM),d.kJ (jO hM)⟩ (fun _ hk=>hk.elim);exact⟨J3 hown hl hf h2 h3 hM kP,h3⟩
theorem Br{Rr:α->List Value->Prop}{sz m:Nat}{A:Option Addr}(h:eu Rr sz W A m ys)(hR: ∀x c,Rr x c->c.length=sz/\ ∀u∈c,u.oneCell'=true):
 ∃news:List (List Value),news.length=ys.length/\eu (fun x cs=>cs=x/\cs.length=sz/\ ∀u∈cs,u.oneCell'=true) sz W A m news/\ ∀(j:Nat) (x:α) (c:List Value),ys[j]? =some x->news[j]? =some c->Rr x c:=by
 rcases Nat.eq_zero_or_pos m with h0|hp
 ·have hy:ys= []:=List.eq_nil_of_length_eq_zero (h.1.trans h0)
  subst hy;exact⟨[],rfl,⟨h0▸rfl,h.2.1,fun hp=>by omega⟩,fun j x c hx=>by simp at hx⟩
 ·obtain⟨ad,rfl,_⟩:=h.2.2 hp
  obtain⟨inner,hr,hc⟩:=eu.Gx h;refine⟨chunks sz ys.length inner,gi _ _ _,⟨by rw[gi];exact h.1,h.2.1,fun _=>⟨ad,rfl,fun j p hj=>?_⟩⟩,fun j x c hx hcc=>?_⟩
  ·have hjl:j<ys.length:=by have:=(List.getElem?_eq_some_iff.1 hj).1;rwa[gi]at this
   have hpe:=oQ hj;have hq:=hR _ _ (hr.2 j _ (List.getElem?_eq_getElem hjl));rw[<-hpe]at hq;refine⟨p,hq.1,⟨rfl,hq⟩,fun i u hu=>?_⟩
   have Qa:inner[j*sz+i]? =some u:=by
    rw[hpe,List.getElem?_take]at hu
    split at hu
    ·rw[List.getElem?_drop]at hu
     exact hu
    ·cases hu
   exact hc _ u Qa
  ·rw[oQ hcc]
   exact hr.2 j x hx
end
section
variable {P:Program} {ops:Array Oper} {rest:List Oper} {o:Oper} {a:Act} {Q:Exit->Act->World->Prop} {Kc:Act->World->Prop} {α:Type}
theorem tL(d:Kd α){w0 W:World}(base:Nat)(hgd:o.guard=none)(s x:Operand)(t e:TypeId)(z:Value)(bytes:Nat)
 (ho:o.op= .call {callee:= .builtin .append,args:=#[s,x],argTypes:=#[t,t]})
 (ht:P.underlying t=some (.slice e)) (hinfo:(P.info? e).map (fun i=>(i.zero,i.size,i.bytes))=some (some z,d.sz,bytes)) (hz:z.cells.size=d.sz) (hs0:0<d.sz) (hb0:0<bytes)
 (v:Value) (xs:List α) (p:α) (cs:List Value) (ok kK:Nat->Prop) (hs:a.eval s=v) (hx:a.eval x= .slice (some ⟨W.heap.size,0,none⟩) 1 1) (hp:FK d W kK p cs) (kP: ∀k,kK k->ok k/\some k≠v.ownBlock) (gB: ∀k,W.heap.size<=k->ok k)
 (HO:N d e W base ok v xs) (HB:Below base w0 W) (hbase:base<=W.heap.size) (hl:(xs.length+1)*bytes<=140737488355328)
 (h: ∀v1 w1,N d e w1 base ok v1 (xs++ [p])->Below base w0 w1->W.grownBy w1 v.ownBlock->(v1.ownBlock=v.ownBlock\/ ∃b,v1.ownBlock=some b/\W.heap.size<=b)->wpList P ops Q rest (a.put o.dst v1) w1):
 wpList P ops Q (o::rest) a (W.alloc (.cells cs.toArray e)):=by
 obtain⟨h0,rows,hlr,hR,hf⟩:=HO;refine fc (raw d.sz) base hgd s x t e z bytes ho ht hinfo hz hs0 hb0 v rows cs cs (fun _=>True) (fun _=>False) hs hx (T3 hp) (fun _ hk=>hk.elim) (fun _ _=>trivial) (tK hR) HB hbase (by rw[hlr];exact hl) ?_;intro v1 w1 hr hb hg hat
 exact h v1 w1 (sJ h0 hlr hf (ys:= [p]) (news:= [cs]) rfl (fun j y c hy hc=>by
  rcases j with _|j
  ·simp only[List.getElem?_cons_zero,Option.some.injEq]at hy hc
   rw[<-hy,<-hc];exact hp
  ·simp at hy) kP gB hr hg hat) hb hg hat
theorem gj(d:Kd α){w0 W:World}(base:Nat)(hgd:o.guard=none)(s x:Operand)(t e:TypeId)(z:Value)(bytes:Nat)
 (ho:o.op= .call {callee:= .builtin .append,args:=#[s,x],argTypes:=#[t,t]})
 (ht:P.underlying t=some (.slice e)) (hinfo:(P.info? e).map (fun i=>(i.zero,i.size,i.bytes))=some (some z,d.sz,bytes)) (hz:z.cells.size=d.sz) (hs0:0<d.sz) (hb0:0<bytes)
 (v:Value) (xs ys:List α) (A:Option Addr) (m c:Nat) (ok kK:Nat->Prop) (hs:a.eval s=v) (hx:a.eval x= .slice A m c)
 (HO:N d e W base ok v xs) (HR:F d W kK A m ys) (kP: ∀k,kK k->ok k/\some k≠v.ownBlock) (gB: ∀k,W.heap.size<=k->ok k)
 (HB:Below base w0 W) (hbase:base<=W.heap.size) (hl:(xs.length+m)*bytes<=140737488355328)
 (h: ∀v1 w1,N d e w1 base ok v1 (xs++ys)->Below base w0 w1->W.grownBy w1 v.ownBlock->(v1.ownBlock=v.ownBlock\/ ∃b,v1.ownBlock=some b/\W.heap.size<=b)->wpList P ops Q rest (a.put o.dst v1) w1):
 wpList P ops Q (o::rest) a W:=by
 obtain⟨h0,rows,hlr,hR,hf⟩:=HO;obtain⟨news,hnl,TS,hnf⟩:=Br (Mw HR) (fun y c hk=>⟨d.mg (jO hk),d.kJ (jO hk)⟩);refine fF (raw d.sz) base hgd s x t e z bytes ho ht hinfo hz hs0 hb0 v rows news A m c (fun _=>True) (fun _=>False) hs hx (tK hR) TS (fun _ _ hk=>hk) (fun _ hk=>hk.elim) (fun _ _=>trivial) HB hbase (by rw[hlr];exact hl) ?_;intro v1 w1 hr hb hg hat;exact h v1 w1 (sJ h0 hlr hf hnl hnf kP gB hr hg hat) hb hg hat
theorem aH(d:Kd α){w0 W:World}(base:Nat)(hw:Region.wanted o (yielded ops a.tmps)=true)(s x:Operand)(t e:TypeId)(z:Value)(bytes:Nat)
 (ho:o.op= .call {callee:= .builtin .append,args:=#[s,x],argTypes:=#[t,t]})
 (ht:P.underlying t=some (.slice e)) (hinfo:(P.info? e).map (fun i=>(i.zero,i.size,i.bytes))=some (some z,d.sz,bytes)) (hz:z.cells.size=d.sz) (hs0:0<d.sz) (hb0:0<bytes)
 (v:Value) (xs ys:List α) (A:Option Addr) (m c:Nat) (ok kK:Nat->Prop) (hs:a.eval s=v) (hx:a.eval x= .slice A m c)
 (HO:N d e W base ok v xs) (HR:F d W kK A m ys) (kP: ∀k,kK k->ok k/\some k≠v.ownBlock) (gB: ∀k,W.heap.size<=k->ok k)
 (HB:Below base w0 W) (hbase:base<=W.heap.size) (hl:(xs.length+m)*bytes<=140737488355328)
 (h: ∀v1 w1,N d e w1 base ok v1 (xs++ys)->Below base w0 w1->W.grownBy w1 v.ownBlock->(v1.ownBlock=v.ownBlock\/ ∃b,v1.ownBlock=some b/\W.heap.size<=b)->Kc (a.put o.dst v1) w1):
 if Region.wanted o (yielded ops a.tmps)=true then Oper.wp P o a W Kc Q else Kc (a.put o.dst undef) W:=by
 obtain⟨h0,rows,hlr,hR,hf⟩:=HO;obtain⟨news,hnl,TS,hnf⟩:=Br (Mw HR) (fun y c hk=>⟨d.mg (jO hk),d.kJ (jO hk)⟩);refine cr (raw d.sz) base hw s x t e z bytes ho ht hinfo hz hs0 hb0 v rows news A m c (fun _=>True) (fun _=>False) hs hx (tK hR) TS (fun _ _ hk=>hk) (fun _ hk=>hk.elim) (fun _ _=>trivial) HB hbase (by rw[hlr];exact hl) ?_;intro v1 w1 hr hb hg hat;exact h v1 w1 (sJ h0 hlr hf hnl hnf kP gB hr hg hat) hb hg hat
end
end Kd
end Go.Proofs.Wz.PrintWords
section
namespace Go.Proofs.Wz.vg
open Go.RowKit Go.Proofs.Wz.PrintWords
namespace Kd
open Go.Proofs.Wz.PrintWords.Kd
end Kd
namespace Kd
open Go.Proofs.Wz.PrintWords.Kd
section
variable {α:Type} {d:Kd α} {e base g N:Nat} {ok:Nat->Prop} {W w1:World} {u v:Value} {xs:List α}
end
end Kd
theorem El(k k':IntKind)(x y:Int):Builtin.max2 (.int k x) (.int k' y)=pure (.int k (if x<y then y else x)):=by simp only[Builtin.max2,gt_iff_lt]
theorem Em(k k':IntKind)(x y:Int):Builtin.min2 (.int k x) (.int k' y)=pure (.int k (if y<x then y else x)):=by simp only[Builtin.min2]
theorem IM(ats:Array TypeId)(ty:TypeId)(a b:Value):Builtin.max_ ats ty #[a,b]=(Builtin.max2 a b>>=fun s=>pure s):=by simp only[Builtin.max_,List.foldlM_cons,List.foldlM_nil]
theorem IP(ats:Array TypeId)(ty:TypeId)(a b:Value):Builtin.min_ ats ty #[a,b]=(Builtin.min2 a b>>=fun s=>pure s):=by simp only[Builtin.min_,List.foldlM_cons,List.foldlM_nil]
theorem Bt(ats:Array TypeId)(ty:TypeId)(a b c:Value):Builtin.max_ ats ty #[a,b,c]=(Builtin.max2 a b>>=fun s=>Builtin.max2 s c>>=fun s=>pure s):=by simp only[Builtin.max_,List.foldlM_cons,List.foldlM_nil]
theorem Bu(ats:Array TypeId)(ty:TypeId)(a b c:Value):Builtin.min_ ats ty #[a,b,c]=(Builtin.min2 a b>>=fun s=>Builtin.min2 s c>>=fun s=>pure s):=by simp only[Builtin.min_,List.foldlM_cons,List.foldlM_nil]
theorem En(ats:Array TypeId)(ty:TypeId)(a b c d:Value):Builtin.max_ ats ty #[a,b,c,d]=(Builtin.max2 a b>>=fun s=>Builtin.max2 s c>>=fun s=>Builtin.max2 s d>>=fun s=>pure s):=by simp only[Builtin.max_,List.foldlM_cons,List.foldlM_nil]
theorem Eo(ats:Array TypeId)(ty:TypeId)(a b c d:Value):Builtin.min_ ats ty #[a,b,c,d]=(Builtin.min2 a b>>=fun s=>Builtin.min2 s c>>=fun s=>Builtin.min2 s d>>=fun s=>pure s):=by simp only[Builtin.min_,List.foldlM_cons,List.foldlM_nil]
end Go.Proofs.Wz.vg
namespace Go.Proofs.Wz.PrintWords
open Go.RowKit
section
variable {P:Program} {ops:Array Oper} {rest:List Oper} {o:Oper} {a:Act} {Q:Exit->Act->World->Prop} {W:World}
theorem qC{f:FuncId}{aaJ:Array Operand}{ts:Array TypeId}(_ho:o.op= .call {callee:= .value (.func f),args:=aaJ,argTypes:=ts})(h:wpList P ops Q (o::rest) a W):wpList P ops Q (o::rest) a W:=h
end
namespace Kd
section
variable {α:Type} {d:Kd α} {e base:Nat} {ok:Nat->Prop} {W w1:World} {v:Value} {xs:List α}
end
section
variable {α:Type} {d:Kd α} {e base g n cap:Nat} {ok oki kK:Nat->Prop} {W:World} {xs:List α} {i:Int} {c:List Value}
end
section
variable {α:Type} {d:Kd α} {e base b b' g N:Nat} {ok ok1:Nat->Prop} {W W2 w1:World} {u v:Value} {xs ys:List α} {S:Nat->Prop}
end
end Kd
end Go.Proofs.Wz.PrintWords
namespace Go.Proofs.Wz.PrintWords
open Go.RowKit
namespace Kd
def V{α:Type}(d:Kd α)(_e:Nat)(W:World)(aev:Nat)(ok:Nat->Prop)(v:Value)(xs:List α):Prop:= ∃A c,v= .slice A xs.length c/\xs.length<=c/\F d W ok A xs.length xs
section
variable {α β:Type} {d:Kd α} {e base base' n m c g N' lo hi:Nat} {ok ok' S:Nat->Prop} {w W w1:World} {A:Option Addr} {ad:Addr} {u v v1:Value} {xs:List α}
theorem SQ(h:V d e W base ok v xs)(hF: ∀A,F d W ok A xs.length xs->F d w1 ok' A xs.length xs):V d e w1 base' ok' v xs:=by
 obtain⟨A,c,hv,hl,hf⟩:=h;exact⟨A,c,hv,hl,hF A hf⟩
theorem Xb(hl:xs.length<=c)(hf:F d W ok A xs.length xs):V d e W base ok (.slice A xs.length c) xs:=⟨A,c,rfl,hl,hf⟩
theorem CB(h:V d e W base ok v xs): ∃A c,v= .slice A xs.length c:=by
 obtain⟨A,c,hv,_⟩:=h;exact⟨A,c,hv⟩
theorem QA(h:V d e W base ok (.slice A n c) xs):n=xs.length/\n<=c/\F d W ok A xs.length xs:=by
 obtain⟨A',c',hv,hl,hf⟩:=h;injection hv with ha hn hc;subst ha;subst hc;exact⟨hn,by rw[hn];exact hl,hf⟩
theorem qD(h:V d e W base ok (.slice A n c) xs):n=xs.length/\n<=c/\d.C W A xs.length xs:=⟨(QA h).1,(QA h).2.1,Mt (QA h).2.2⟩
theorem T5(h:V d e W base ok v xs)(hok: ∀k,ok k->ok' k):V d e W base ok' v xs:=SQ h (fun _ hf=>Cx hf hok)
theorem IQ(h:V d e W base ok v xs)(hb:Below W.heap.size W w1):V d e w1 base ok v xs:=SQ h (fun _ hf=>bS hf hb)
theorem T6(h:F d W ok A xs.length xs)(hm:m<=xs.length):F d W ok A (xs.take m).length (xs.take m):=SP h (fun _ hC=>TT hC hm)
theorem SR(h:F d W ok A xs.length xs)(hm:m<=xs.length)(hc:xs.length<=c):F d W ok (if c=m then A else A.map (·.add (m*d.sz))) (xs.drop m).length (xs.drop m):=SP h (fun _ hC=>TU hC hm hc)
end
end Kd
end Go.Proofs.Wz.PrintWords
end
namespace Go.Proofs.Wz.PrintWords
open Go.ChangeShapes Go.WideShapes
theorem sized_ints{H:Type}{enc:TypeId×Value->H}{P:Program}{W:World}{base:Nat}{spare:Nat->Bool}{held:Bool}{t e:TypeId}{k:IntKind}{a:Option Addr}{len cap:Nat}{d:DataW H}{ps:List MemPlace}{ts:List TypeId}{ds:List (DataW H)}{j:Nat}
 (hsz:(DataW.weightsEach P ts ds).all (· <=reachBytes)=true) (ht:ts[j]? =some t) (hd:ds[j]? =some d) (hu:P.underlying t=some (.slice e)) (he:P.underlying e=some (.int k)) (hc:P.cellsOf e=1) {B:Nat} (hB:P.bytesOf e=B)
 (h:DataW.Trod enc P W base spare held t (.slice a len cap) d ps):len*B<=140737488351232:=by
 obtain⟨fuel,hf⟩:=h;rcases open_ints hu he hc hf with⟨hcs,_⟩|⟨x,l,c,zs,hcs,_,hl,_,hz,hx,_,_⟩
 ·simp[Value.cells]at hcs
  obtain⟨rfl,rfl,rfl⟩:=hcs;simp
 ·simp[Value.cells]at hcs
  obtain⟨rfl,rfl,rfl⟩:=hcs;obtain⟨hx,_⟩:=Prod.mk.inj hx;subst hx;have z:=sized_slice hsz ht hd hu;rw[hB]at z
  have hl2:len<=zs.length:=by
   rw[hz]
   split
   ·exact hl
   ·exact Nat.le_refl _
  have h1:(lits (H:=H) k (zs.take len)).length+(lits (H:=H) k (zs.drop len)).length=zs.length:=by
   simp[lits];omega
  rw[h1]at z;exact Nat.le_trans (Nat.mul_le_mul_right _ hl2) z
end Go.Proofs.Wz.PrintWords
