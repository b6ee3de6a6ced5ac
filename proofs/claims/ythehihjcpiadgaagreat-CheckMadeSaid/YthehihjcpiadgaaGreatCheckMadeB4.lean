import Derived.BigRegion
import Derived.Test.YthehihjcpiadgaaGreatCheckMadeB2
import Derived.Test.YthehihjcpiadgaaGreatCheckMadeB3
set_option maxRecDepth 100000
set_option maxHeartbeats 0
set_option linter.all false
open Go.Proofs.Tryz
namespace Go.Proofs.YthehihjcpiadgaaGreat
open Go.RowKit Go.Proofs.Wz.PrintWords Go.Proofs.Wz.bM
section
variable {P:Program} {ops:Array Oper} {Q:Exit->Act->World->Prop} {md:Region.Mode} {S:World->Prop} {ds:List Nat}
theorem st{id:Nat}{a:Act}{w:World}(n:Nat)(S:World->Prop)(ds:List Nat)(hS:S w.drew){l:Array Bool}(h:S w.drew->aP P .any ops Q S ds n l a w.drew)
 (hm:P.follows .mixedOrders=true:=by kernel_rfl) (hn:ops.size=n:=by rfl) (hl:Array.replicate n false=l:=by simp only[Array.replicate,List.replicate_succ,List.replicate_zero];rfl):(Code.region id ops true).wp P Q a w:=Mp l hm hn hl hS h
theorem tk{oi:Oper}{v:Value}{fuel:Nat}{l l':Array Bool}{a a':Act}{w:World}(i N:Nat)(hS:S w)(h:aP P md ops Q S ds fuel l' a' w)
 (hi:ops[i]? =some oi:=by rfl) (hN:oi.dst=some N:=by rfl) (hl:l.setIfInBounds i true=l':=by simp only[List.setIfInBounds_toArray,List.set_cons_zero,List.set_cons_succ];rfl) (hc:Mq md ops ds l l' i=true:=by kernel_rfl) (hQ: ∀c a w,Q (.panic c) (a.put oi.dst v) w->Q (.panic c) a w:=by exact fun _ _ _ h=>h) (hy:YieldsIf P ops S oi v a:=by exact Or.inl ⟨by rfl,by(intro w' hs;(repeat (obtain⟨_,hs⟩:=hs));go_simp;try with_reducible rfl)⟩) (ha:a.put (some N) v=a':=by simp only[Act.put,List.setIfInBounds_toArray,List.set_cons_zero,List.set_cons_succ,ja,jf];rfl):aP P md ops Q S ds (fuel+1) l a w:=
 Ef l' hi hN hc hQ hy hS ha h
theorem pu{oi:Oper}{v:Value}{fuel:Nat}{l l':Array Bool}{a a':Act}{w:World}(i N:Nat)(h:aP P md ops Q S ds fuel l' a' w)
 (hi:ops[i]? =some oi:=by rfl) (hN:oi.dst=some N:=by rfl) (hl:l.setIfInBounds i true=l':=by simp only[List.setIfInBounds_toArray,List.set_cons_zero,List.set_cons_succ];rfl) (hc:Ej md ops l l' i=true:=by kernel_rfl) (hQ: ∀c a w,Q (.panic c) (a.put oi.dst v) w->Q (.panic c) a w:=by exact fun _ _ _ h=>h) (hy:Yields P ops oi v a:=by first|exact Or.inl ⟨by rfl,by(intro w';go_simp;try with_reducible rfl)⟩|exact Or.inr ⟨by rfl,rfl⟩) (ha:a.put (some N) v=a':=by simp only[Act.put,List.setIfInBounds_toArray,List.set_cons_zero,List.set_cons_succ,ja,jf];rfl):aP P md ops Q S ds (fuel+1) l a w:=
 oh l' hi hN hc hQ hy ha h
theorem pu2{o1 o2:Oper}{v1 v2:Value}{fuel:Nat}{l0 l1 l2:Array Bool}{a0 a1 a2:Act}{w:World}(i1 N1 i2 N2:Nat)(h:aP P md ops Q S ds fuel l2 a2 w)
 (hi1:ops[i1]? =some o1:=by rfl) (Wl:o1.dst=some N1:=by rfl) (Am:l0.setIfInBounds i1 true=l1:=by simp only[List.setIfInBounds_toArray,List.set_cons_zero,List.set_cons_succ];rfl) (hc1:Ej md ops l0 l1 i1=true:=by kernel_rfl) (hQ1: ∀c a0 w,Q (.panic c) (a0.put o1.dst v1) w->Q (.panic c) a0 w:=by exact fun _ _ _ h=>h) (hy1:Yields P ops o1 v1 a0:=by first|exact Or.inl ⟨by rfl,by(intro w';go_simp;try with_reducible rfl)⟩|exact Or.inr ⟨by rfl,rfl⟩) (ha1:a0.put (some N1) v1=a1:=by simp only[Act.put,List.setIfInBounds_toArray,List.set_cons_zero,List.set_cons_succ,ja,jf];rfl) (hi2:ops[i2]? =some o2:=by rfl) (hN2:o2.dst=some N2:=by rfl) (hl2:l1.setIfInBounds i2 true=l2:=by simp only[List.setIfInBounds_toArray,List.set_cons_zero,List.set_cons_succ];rfl) (hc2:Ej md ops l1 l2 i2=true:=by kernel_rfl) (hQ2: ∀c a1 w,Q (.panic c) (a1.put o2.dst v2) w->Q (.panic c) a1 w:=by exact fun _ _ _ h=>h) (hy2:Yields P ops o2 v2 a1:=by first|exact Or.inl ⟨by rfl,by(intro w';go_simp;try with_reducible rfl)⟩|exact Or.inr ⟨by rfl,rfl⟩) (ha2:a1.put (some N2) v2=a2:=by simp only[Act.put,List.setIfInBounds_toArray,List.set_cons_zero,List.set_cons_succ,ja,jf];rfl):aP P md ops Q S ds (fuel+1+1) l0 a0 w:=
 (pu i1 N1 (pu i2 N2 h hi2 hN2 hl2 hc2 hQ2 hy2 ha2) hi1 Wl Am hc1 hQ1 hy1 ha1)
theorem cZ{o1 o2 o3:Oper}{v1 v2 v3:Value}{fuel:Nat}{l0 l1 l2 l3:Array Bool}{a0 a1 a2 a3:Act}{w:World}(i1 N1 i2 N2 i3 N3:Nat)(h:aP P md ops Q S ds fuel l3 a3 w)
 (hi1:ops[i1]? =some o1:=by rfl) (Wl:o1.dst=some N1:=by rfl) (Am:l0.setIfInBounds i1 true=l1:=by simp only[List.setIfInBounds_toArray,List.set_cons_zero,List.set_cons_succ];rfl) (hc1:Ej md ops l0 l1 i1=true:=by kernel_rfl) (hQ1: ∀c a0 w,Q (.panic c) (a0.put o1.dst v1) w->Q (.panic c) a0 w:=by exact fun _ _ _ h=>h) (hy1:Yields P ops o1 v1 a0:=by first|exact Or.inl ⟨by rfl,by(intro w';go_simp;try with_reducible rfl)⟩|exact Or.inr ⟨by rfl,rfl⟩) (ha1:a0.put (some N1) v1=a1:=by simp only[Act.put,List.setIfInBounds_toArray,List.set_cons_zero,List.set_cons_succ,ja,jf];rfl) (hi2:ops[i2]? =some o2:=by rfl) (hN2:o2.dst=some N2:=by rfl) (hl2:l1.setIfInBounds i2 true=l2:=by simp only[List.setIfInBounds_toArray,List.set_cons_zero,List.set_cons_succ];rfl) (hc2:Ej md ops l1 l2 i2=true:=by kernel_rfl) (hQ2: ∀c a1 w,Q (.panic c) (a1.put o2.dst v2) w->Q (.panic c) a1 w:=by exact fun _ _ _ h=>h) (hy2:Yields P ops o2 v2 a1:=by first|exact Or.inl ⟨by rfl,by(intro w';go_simp;try with_reducible rfl)⟩|exact Or.inr ⟨by rfl,rfl⟩) (ha2:a1.put (some N2) v2=a2:=by simp only[Act.put,List.setIfInBounds_toArray,List.set_cons_zero,List.set_cons_succ,ja,jf];rfl) (hi3:ops[i3]? =some o3:=by rfl) (hN3:o3.dst=some N3:=by rfl) (hl3:l2.setIfInBounds i3 true=l3:=by simp only[List.setIfInBounds_toArray,List.set_cons_zero,List.set_cons_succ];rfl) (hc3:Ej md ops l2 l3 i3=true:=by kernel_rfl) (hQ3: ∀c a2 w,Q (.panic c) (a2.put o3.dst v3) w->Q (.panic c) a2 w:=by exact fun _ _ _ h=>h) (hy3:Yields P ops o3 v3 a2:=by first|exact Or.inl ⟨by rfl,by(intro w';go_simp;try with_reducible rfl)⟩|exact Or.inr ⟨by rfl,rfl⟩) (ha3:a2.put (some N3) v3=a3:=by simp only[Act.put,List.setIfInBounds_toArray,List.set_cons_zero,List.set_cons_succ,ja,jf];rfl):aP P md ops Q S ds (fuel+1+1+1) l0 a0 w:=
 (pu i1 N1 (pu i2 N2 (pu i3 N3 h hi3 hN3 hl3 hc3 hQ3 hy3 ha3) hi2 hN2 hl2 hc2 hQ2 hy2 ha2) hi1 Wl Am hc1 hQ1 hy1 ha1)
theorem on{oi:Oper}{fuel:Nat}{l l':Array Bool}{a:Act}{w:World}(i:Nat)(N:Option Tmp)(h: ∀K:Act->World->Prop,Shut (∀a' w',S w'->(S w'->aP P md ops Q S ds fuel l' a' w')->K a' w')->if Region.wanted oi (yielded ops a.tmps)=true then Oper.wp P oi a w K Q else K (a.put N undef) w)
 (hi:ops[i]? =some oi:=by rfl) (hN:oi.dst=N:=by rfl) (hl:l.setIfInBounds i true=l':=by simp only[List.setIfInBounds_toArray,List.set_cons_zero,List.set_cons_succ];rfl) (hc:sH md ops l l' i=true:=by kernel_rfl) (hd:i∉ds:=by decide):aP P md ops Q S ds (fuel+1) l a w:=
 abx l' hi hN hc hd h
theorem lk{oi:Oper}{fuel:Nat}{l l':Array Bool}{a:Act}{w:World}(i:Nat)(N:Option Tmp)(h: ∀K:Act->World->Prop,Shut (∀a' w',aP P md ops Q S ds fuel l' a' w'->K a' w')->if Region.wanted oi (yielded ops a.tmps)=true then Oper.wp P oi a w K Q else K (a.put N undef) w)
 (hi:ops[i]? =some oi:=by rfl) (hN:oi.dst=N:=by rfl) (hl:l.setIfInBounds i true=l':=by simp only[List.setIfInBounds_toArray,List.set_cons_zero,List.set_cons_succ];rfl) (hc:sH md ops l l' i=true:=by kernel_rfl) (hd:i∈ds:=by decide):aP P md ops Q S ds (fuel+1) l a w:=
 Mr l' hi hN hc hd h
theorem la{oi:Oper}{fuel:Nat}{l l':Array Bool}{a a1:Act}{w w1:World}(i:Nat)(h:aP P md ops Q S ds fuel l' a1 w1)
 (hi:ops[i]? =some oi:=by rfl) (hN:oi.dst=none:=by rfl) (hl:l.setIfInBounds i true=l':=by simp only[List.setIfInBounds_toArray,List.set_cons_zero,List.set_cons_succ];rfl) (hc:sH md ops l l' i=true:=by kernel_rfl) (hd:i∈ds:=by decide) (hw: ∀K:Act->World->Prop,K a1 w1->if Region.wanted oi (yielded ops a.tmps)=true then Oper.wp P oi a w K Q else K (a.put none undef) w:=by(intro K hK;rw[if_pos (by rfl)];go_simp;exact hK)):aP P md ops Q S ds (fuel+1) l a w:=
 Mr l' hi hN hc hd (fun K hK=>hw K (hK.o _ _ h))
theorem tw{oi oj:Oper}{fuel:Nat}{l li lj:Array Bool}{a:Act}{w:World}(i j:Nat)(Ni Nj:Option Tmp)
 (h1: ∀K:Act->World->Prop,Shut (∀a' w',S w'->(S w'->aP P md ops Q S ds fuel li a' w')->K a' w')->if Region.wanted oi (yielded ops a.tmps)=true then Oper.wp P oi a w K Q else K (a.put Ni undef) w)
 (h2: ∀K:Act->World->Prop,Shut (∀a' w',S w'->(S w'->aP P md ops Q S ds fuel lj a' w')->K a' w')->if Region.wanted oj (yielded ops a.tmps)=true then Oper.wp P oj a w K Q else K (a.put Nj undef) w)
 (hi:ops[i]? =some oi:=by rfl) (hj:ops[j]? =some oj:=by rfl) (hNi:oi.dst=Ni:=by rfl) (hNj:oj.dst=Nj:=by rfl) (hli:l.setIfInBounds i true=li:=by simp only[List.setIfInBounds_toArray,List.set_cons_zero,List.set_cons_succ];rfl) (hlj:l.setIfInBounds j true=lj:=by simp only[List.setIfInBounds_toArray,List.set_cons_zero,List.set_cons_succ];rfl)
 (hc:(Region.ready md ops l== [i,j]&&l.setIfInBounds i true==li&&l.setIfInBounds j true==lj)=true:=by kernel_rfl) (hdi:i∉ds:=by decide) (hdj:j∉ds:=by decide):aP P md ops Q S ds (fuel+1) l a w:=
 aby li lj hi hj hNi hNj hc hdi hdj h1 h2
theorem nm{fuel:Nat}{l:Array Bool}{a a':Act}{w:World}(h:aP P md ops Q S ds fuel l a' w)
 (ha:a=a':=by simp only[Act.put,List.setIfInBounds_toArray,List.set_cons_zero,List.set_cons_succ,ja,jf];rfl):aP P md ops Q S ds fuel l a w:=WT ha h
theorem dn{l:Array Bool}{a:Act}{w:World}{n:Nat}(h:Q .normal a w)
 (hr:(Region.ready md ops l== [])=true:=by kernel_rfl):aP P md ops Q S ds n l a w:=SN hr h
theorem ge{oi:Oper}{N:Option Tmp}{a:Act}{w:World}{K:Act->World->Prop}{f:FuncId}{fn:Func}{aaJ:Array Operand}{ts:Array TypeId}{args:Array Value}{R:Ending->World->Prop}(hR:Calls P f args w R)(h: ∀e w',R e w'-> ∃v,e= .returned v/\K (a.put N v) w')
 (hf:P.funcs[f]? =some fn:=by rfl) (hname:(fn.name== "runtime.NumGoroutine")=false:=by kernel_rfl) (hb:fn.body.isSome=true:=by rfl) (hw:Region.wanted oi (yielded ops a.tmps)=true:=by rfl) (hN:oi.dst=N:=by rfl) (hop:oi.op= .call {callee:= .value (.func f),args:=aaJ,argTypes:=ts}:=by rfl) (hargs:aaJ.map a.eval=args:=by simp only[List.map_toArray,List.map_cons,List.map_nil];rfl):if Region.wanted oi (yielded ops a.tmps)=true then Oper.wp P oi a w K Q else K (a.put N undef) w:=
 om hf hname hb args hw hN hop hargs (hR.mono h)
end
end Go.Proofs.YthehihjcpiadgaaGreat
namespace Go.Proofs.YthehihjcpiadgaaGreat
open Go.RowKit Go.Proofs.Wz.PrintWords
namespace Sp
structure yK where
 o:List jb
 d:List jb
 deep:Int
def yK.last(s:yK):jb:=dZ s.o ((s.o.length:Int)-1)
def fo(code:List aW)(i:Nat)(s:yK):Option yK:=
 let op:=(aO code i).f0
 let more:=decide ((i:Int)<code.length-1)
 if opens op then(if more then some ⟨s.o++ [⟨i,-1,-1⟩],s.d,max s.deep (s.o.length+1)⟩else none)
 else if op=5 then
  (if s.o.length=0\/(aO code s.last.f0).f0≠4\/s.last.f1≠ -1 then none
   else if more then some ⟨s.o.set (s.o.length-1) ⟨s.last.f0,i,s.last.f2⟩,s.d,s.deep⟩else none)
 else if op=11/\0<s.o.length then(if more then some ⟨s.o.take (s.o.length-1),s.d++ [⟨s.last.f0,s.last.f1,i⟩],s.deep⟩else none)
 else if op=11 then(if(i:Int)=code.length-1 then some s else none)
 else if more then some s else none
def yL(code:List aW)(i:Nat)(s:yK):Prop:=s.o.length<=i/\s.d.length<=i/\0<=s.deep/\s.deep<=i/\ ∀j:Int,0<=j->j<s.o.length->0<=(dZ s.o j).f0/\(dZ s.o j).f0<code.length
theorem Ki{code:List aW}{i:Nat}{s s':yK}(hi:i<code.length)(h:yL code i s)(hs:fo code i s=some s'):yL code (i+1) s':=by
 obtain⟨h1,h2,h3,h4,h5⟩:=h;unfold fo at hs;dsimp only at hs
 split at hs
 ·split at hs
  ·injection hs with hs
   subst hs;refine⟨by simp;omega,by dsimp only;omega,by dsimp only;omega,by dsimp only;omega,fun j j0 j1=>?_⟩;simp only[List.length_append,List.length_singleton]at j1;by_cases hj:j<s.o.length
   ·have e:dZ (s.o++ [⟨(i:Int),-1,-1⟩]) j=dZ s.o j:=by
     unfold dZ;rw[gq,gq,List.getElem?_append_left (by omega)]
    dsimp only;rw[e];exact h5 j j0 hj
   ·have e:dZ (s.o++ [⟨(i:Int),-1,-1⟩]) j=⟨(i:Int),-1,-1⟩:=by
     unfold dZ;have:j.toNat=s.o.length:=by omega
     rw[gq,this];simp
    dsimp only;rw[e];dsimp only;omega
  ·cases hs
 ·split at hs
  ·split at hs
   ·cases hs
   ·split at hs
    ·rename_i hn _
     injection hs with hs;subst hs;have BB:0<s.o.length:=by omega
     refine⟨by simp;omega,by dsimp only;omega,by dsimp only;omega,by dsimp only;omega,fun j j0 j1=>?_⟩;simp only[List.length_set]at j1;by_cases hj:j.toNat=s.o.length-1
     ·have e:dZ (s.o.set (s.o.length-1) ⟨s.last.f0,i,s.last.f2⟩) j=⟨s.last.f0,i,s.last.f2⟩:=by
       unfold dZ;rw[gq,hj,List.getElem?_set_self (by omega)];rfl
      dsimp only;rw[e];dsimp only;exact h5 _ (by omega) (by omega)
     ·have e:dZ (s.o.set (s.o.length-1) ⟨s.last.f0,i,s.last.f2⟩) j=dZ s.o j:=by
       unfold dZ;rw[gq,gq,List.getElem?_set_ne (by omega)]
      dsimp only;rw[e];exact h5 j j0 j1
    ·cases hs
  ·split at hs
   ·split at hs
    ·rename_i hn _
     injection hs with hs;subst hs;refine⟨by simp;omega,by simp;omega,by dsimp only;omega,by dsimp only;omega,fun j j0 j1=>?_⟩;simp only[List.length_take]at j1
     have e:dZ (s.o.take (s.o.length-1)) j=dZ s.o j:=by
      unfold dZ;rw[gq,gq,List.getElem?_take_of_lt (by omega)]
     dsimp only;rw[e];exact h5 j j0 (by omega)
    ·cases hs
   ·split at hs
    ·split at hs
     ·injection hs with hs;subst hs
      exact⟨by omega,by omega,h3,by omega,h5⟩
     ·cases hs
    ·split at hs
     ·injection hs with hs;subst hs
      exact⟨by omega,by omega,h3,by omega,h5⟩
     ·cases hs
end Sp
end Go.Proofs.YthehihjcpiadgaaGreat
namespace Go.Proofs.YthehihjcpiadgaaGreat
open Go.RowKit Go.Proofs.Wz.PrintWords Go.Proofs.Wz.bM
theorem ue:(prog.info? 151).map (fun i=>(i.zero,i.size,i.bytes))=some (some (.agg #[.int .i64 0,.int .i64 0,.int .i64 0]),3,24):=by kernel_rfl
abbrev kA(w:World)(base:Nat)(ok:Nat->Prop)(v:Value)(xs:List jb):Prop:=wF.R 151 w base ok v xs
theorem Nb{w w1:World}{n:Nat}{r:Option Nat}(h:(w.drewN n).grownBy w1 r):w.grownBy w1 r:=⟨h.os,h.tape,h.output,h.size,h.block⟩
theorem BC{w:World}{n:Nat}{v v1:Value}(h:v1.ownBlock=v.ownBlock\/ ∃b,v1.ownBlock=some b/\(w.drewN n).heap.size<=b):v1.ownBlock=v.ownBlock\/ ∃b,v1.ownBlock=some b/\w.heap.size<=b:=h
def mZ(w:World)(base g:Nat)(s:Sp.yK)(vo vd:Value):Prop:=
 w.heap[g]? =some (.cells #[vo,vd,.int .i64 s.deep] 147 (0,0))/\base<=g/\kA w base (fun k=>k≠g/\some k≠vd.ownBlock) vo s.o/\kA w base (fun k=>k≠g/\some k≠vo.ownBlock) vd s.d
def sQ(w0:World)(g:Nat)(r:Option Sp.yK)(e:Ending)(w':World):Prop:=
 e= .returned (.bool r.isSome)/\Below w0.heap.size w0 w'/\ ∀s',r=some s'-> ∃vo vd,mZ w' w0.heap.size g s' vo vd
theorem vv{w:World}{base g:Nat}{s:Sp.yK}{vo vd:Value}(h:mZ w base g s vo vd)(n:Nat):mZ (w.drewN n) base g s vo vd:=⟨h.1,h.2.1,Kd.bU h.2.2.1 n,Kd.bU h.2.2.2 n⟩
theorem yM{w1:World}{base g:Nat}{x0 vo vd:Value}{x2 y:Int}{o d:List jb}(hg:w1.heap[g]? =some (.cells #[x0,vd,.int .i64 x2] 147 (0,0)))(hb:base<=g)(ho:kA w1 base (fun k=>k≠g/\some k≠vd.ownBlock) vo o)(hd:kA w1 base (fun k=>k≠g/\some k≠vo.ownBlock) vd d):
 mZ ((w1.setCell ⟨g,0,none⟩ vo).setCell ⟨g,2,none⟩ (.int .i64 y)) base g ⟨o,d,y⟩ vo vd:=
 ⟨bC (bC hg 0 vo) 2 (.int .i64 y),hb,Kd.dr (Kd.dr ho (fun k hk=>hk.1) _) (fun k hk=>hk.1) _,Kd.dr (Kd.dr hd (fun k hk=>hk.1) _) (fun k hk=>hk.1) _⟩
theorem Kj{w:World}{base g gb cap j:Nat}{s:Sp.yK}{vd:Value}{z:jb}{y:Int}(h:mZ w base g s (.slice (some ⟨gb,0,none⟩) s.o.length cap) vd)(hj:s.o.length=j+1)(hz:z=dZ s.o (j:Int)):
 mZ (w.setCell ⟨gb,j*3+1,none⟩ (.int .i64 y)) base g ⟨s.o.set (s.o.length-1) ⟨z.f0,y,z.f2⟩,s.d,s.deep⟩ (.slice (some ⟨gb,0,none⟩) s.o.length cap) vd:=by
 obtain⟨hg0,hbg,hro,hrd⟩:=h;have hne:gb≠g:=(hro.1 gb (by simp[Value.ownBlock])).1;obtain⟨cs,lJ,qc,hcc,oJ⟩:=Kd.kR hro su (j:Int) (by omega) (by omega);have hcs:=nJ qc;subst hcs;have hs:=Kd.IJ hro (j:Int) (by omega) (by omega) (c:=_) (seg:= [.int .i64 y]) (j:=1) lJ hcc (show 1+1<=3 from by omega) (x':=⟨z.f0,y,z.f2⟩) (kK:=fun _=>False) (by rw[hz];exact oq _ _ _ _) (fun _ h=>h.elim);rw[dF]at hs;have e1:j=s.o.length-1:=by omega
 refine⟨bR hg0 (Ne.symm hne) _,hbg,?_,?_⟩
 ·have:=hs.1
  rw[e1]at this⊢;exact this
 ·exact Kd.Ct (w1:=w.setCell ⟨gb,j*3+1,none⟩ (.int .i64 y)) hrd hs.2 (fun k hk=>hk.2)
theorem jL{w W:World}{n:Nat}{a:Addr}{v:Option Value}(hW:w.drewN n=W)(h:w.cell? a=v):W.cell? a=v:=by subst hW;exact h
theorem mJ{w W:World}{n:Nat}{a:Addr}{v:Bool}(hW:w.drewN n=W)(h:w.frozen? a=v):W.frozen? a=v:=by subst hW;exact h
theorem rQ{w W:World}{n k:Nat}(hW:w.drewN n=W)(h:k<w.heap.size):k<W.heap.size:=by subst hW;exact h
theorem Jm{w W:World}{n k:Nat}{o:Option Obj}(hW:w.drewN n=W)(h:w.heap[k]? =o):W.heap[k]? =o:=by subst hW;exact h
theorem Ey{w0 w W:World}{b n:Nat}(hW:w.drewN n=W)(h:Below b w0 w):Below b w0 W:=by subst hW;exact aq h _
theorem uf{w W:World}{b n:Nat}{ok:Nat->Prop}{v:Value}{xs:List jb}(hW:w.drewN n=W)(h:kA w b ok v xs):kA W b ok v xs:=by subst hW;exact Kd.bU h _
theorem Aw(n:Int):IntKind.i64.wrap n=wrap64 n:=by unfold Go.RowKit.wrap64;exact IntKind.wrap_i64 n
theorem ak{w:World}{a:Addr}{v:Value}{o:Obj}(h:w.cell? a=some v):(w.alloc o).cell? a=some v:=(World.cell?_alloc_lt _ _ _ (aR w a h)).trans h
theorem mK{w:World}{b q:Nat}{v:Value}{o:Obj}(h:(w.alloc o).cell? ⟨b,q,none⟩=some v)(hb:b<w.heap.size):w.cell? ⟨b,q,none⟩=some v:=(World.cell?_alloc_lt w _ _ hb).symm.trans h
theorem Kk{w1:World}{base g gb cap j n k:Nat}{s:Sp.yK}{x0 x1:Value}{P:Option Addr}{l:List jb}(hg:w1.heap[g]? =some (.cells #[x0,x1,.int .i64 s.deep] 147 (0,0)))(hb:base<=g)(hj:s.o.length=j+1)(ho:kA w1 base (fun q=>q≠g/\some q≠(Value.slice P n k).ownBlock) (.slice (some ⟨gb,0,none⟩) s.o.length cap) s.o)(hd:kA w1 base (fun q=>q≠g/\some q≠(Value.slice (some ⟨gb,0,none⟩) s.o.length cap).ownBlock) (.slice P n k) l):
 mZ ((w1.setCell ⟨g,0,none⟩ (.slice (some ⟨gb,0,none⟩) j cap)).setCell ⟨g,1,none⟩ (.slice P n k)) base g ⟨s.o.take (s.o.length-1),l,s.deep⟩ (.slice (some ⟨gb,0,none⟩) j cap) (.slice P n k):=by
 refine⟨bC (bC hg 0 _) 1 _,hb,?_,?_⟩
 ·have h:=Kd.nR (m:=j) ho (by omega)
  have e:s.o.length-1=j:=by omega
  rw[e];exact Kd.dr (Kd.dr h (fun q hq=>hq.1) _) (fun q hq=>hq.1) _
 ·exact Kd.dr (Kd.dr (Kd.bQ hd (fun q hq=>⟨hq.1,hq.2⟩)) (fun q hq=>hq.1) _) (fun q hq=>hq.1) _
theorem Ez{j:Nat}(h:j<=65536):wrap64 (j:Int)=(j:Int):=by unfold wrap64;omega
theorem gU{w0 W:World}{g j:Nat}{v:Value}(h:Below w0.heap.size w0 W)(hg:w0.heap.size<=g):Below w0.heap.size w0 (W.setCell ⟨g,j,none⟩ v):=h.setCell hg _
theorem EA(w0 w:World)(HB:Below w0.heap.size w0 w)(A:Option Addr)(c:Nat)(code:List aW)(hC:bW.C w0 A code.length code)(i:Nat)(hi:i<code.length)(hl:code.length<=65536)(g:Nat)(s:Sp.yK)(vo vd:Value)(h:mZ w w0.heap.size g s vo vd)(hI:Sp.yL code i s)(hop:Sp.opens (aO code i).f0=true):Calls prog 80 #[.pointer (some ⟨g,0,none⟩),.slice A code.length c,.int .i64 i] w (sQ w0 g (Sp.fo code i s)):=by
 have hM:=h;obtain⟨hg0,hbg,hro,hrd⟩:=h;obtain⟨P,ko,rfl⟩:=Kd.ai hro;obtain⟨ad,A4,c4,rfl,e0,-⟩:=jF (Kd.bJ hC HB) (i:Int) (by omega) (by omega);rw[dF]at e0;obtain⟨b1,b2,b3,b4,b5⟩:=hI;have hi1:(0:Int)<=(i:Int):=by omega
 have hi2:(i:Int)<(code.length:Int):=by omega
 obtain⟨op,iY⟩:=ex ((aO code i).f0);rw[<-iY]at hop e0;have c0:w.cell? ⟨g,0,none⟩=some (.slice P s.o.length ko):=(aa hg0 0).trans rfl;have c1:w.cell? ⟨g,1,none⟩=some (vd):=(aa hg0 1).trans rfl;have c2:w.cell? ⟨g,2,none⟩=some (.int .i64 s.deep):=(aa hg0 2).trans rfl;have f0:=ah hg0 0;have f1:=ah hg0 1;have f2:=ah hg0 2;have nC:=aj hg0;have H3:=hd (fun w=>(show Calls prog 87 #[.int .i64 op] w (fun e w'=>e= .returned (.bool true)/\w=w')from(show Sp.opens op=true by first|exact hop|(simp only[Sp.opens,Sp.within,iy];omega))▸gK op w));by_cases hm:(i:Int)<code.length-1
 ·have hr:Sp.fo code i s=some ⟨s.o++ [⟨i,-1,-1⟩],s.d,max s.deep (s.o.length+1)⟩:=by unfold Sp.fo;dsimp only;rw[<-iY,if_pos hop];simp[hm]
  rw[hr];clear hr iY hop;have Gk:decide ((i:Int)<(code.length:Int)-1)=true:=by simp;omega
  clear hm;have hw:wrap64 ((code.length:Int)-1)=(code.length:Int)-1:=by unfold wrap64;omega
  have HG:=hd hg0;have Ab:=hd hro;have pX:=hd hrd;have cn:=hd HB;have HI:=hd b5;have HM:=hd hM;clear hg0 hro hrd HB hC b5 hM
  go_enter func80,ntmps80
  go_wp2_with fail
  go_quiet (fail)
  go_wp2_with (first|(go_at_call 87;with_reducible refine(H3.o _).mono ?_;rintro e w'⟨rfl,rfl⟩)|(at_builtin;(refine Kd.fc wF (w0:=w0) w0.heap.size rfl (.tmp 27) (.tmp 30) 101 151 (.agg #[.int .i64 0,.int .i64 0,.int .i64 0]) 24 rfl underlying101 ue rfl (dG 2) (dG 23) (.slice P s.o.length ko) s.o ⟨i,-1,-1⟩ [.int .i64 i,.int .i64 (-1),.int .i64 (-1)] (fun k=>k≠g/\some k≠vd.ownBlock) (fun _=>False) rfl rfl (oq _ _ _ _) (fun _ h=>h.elim) ?fr ?HO ?HB ?hb ?hl ?_);(case fr=>exact fun k hk=>⟨by have:w.heap.size<=k:=hk;omega,fun he=>by have:=Kd.gY pX.o k he.symm;have:w.heap.size<=k:=hk;omega⟩);(case HO=>exact Kd.bU Ab.o _);(case HB=>exact aq cn.o _);(case hb=>exact cn.o.size);(case hl=>omega);intro v1 w1 hR hB hG hat;obtain⟨P1,kk1,rfl⟩:=Kd.ai hR;simp only[List.length_append,List.length_cons,List.length_nil,Nat.zero_add]at hR hat;replace hG:=Nb hG;replace hat:=BC hat;have hg1:w1.heap[g]? =some (.cells #[.slice P s.o.length ko,vd,.int .i64 s.deep] 147 (0,0)):=bD HG.o hG (Kd.uX Ab.o (fun k hk=>hk.1));have d0:=(aa hg1 0).trans rfl;have d1:=(aa hg1 1).trans rfl;have d2:w1.cell? ⟨g,2,none⟩=some (.int .i64 s.deep):=(aa hg1 2).trans rfl;have k0:=ah hg1 0;have k1:=ah hg1 1;have k2:=ah hg1 2;have Ui:=hd (Kd.mm (Kd.bQ pX.o (fun k hk=>⟨hk.1,hk.2⟩)) hG hat);have iK:=hd hR;have bE:=hd hB;have BD:=hd hg1;clear hR hB hG hat hg1 c0 c1 c2 f0 f1 f2))
  all_goals
   go_ret;refine⟨rfl,gU (gU bE.o hbg) hbg,fun s' hs=>?_⟩;injection hs with hs;subst hs
   first
   |(rw[Int.max_eq_right (by omega)];exact⟨_,_,yM BD.o hbg iK.o Ui.o⟩)
   |(rw[Int.max_eq_left (by omega)];exact⟨_,_,yM BD.o hbg iK.o Ui.o⟩)
 ·have hr:Sp.fo code i s=none:=by unfold Sp.fo;dsimp only;rw[<-iY,if_pos hop];simp[hm]
  rw[hr];clear hr iY hop;have Gk:decide ((i:Int)<(code.length:Int)-1)=false:=by simp;omega
  clear hm;have hw:wrap64 ((code.length:Int)-1)=(code.length:Int)-1:=by unfold wrap64;omega
  have HG:=hd hg0;have Ab:=hd hro;have pX:=hd hrd;have cn:=hd HB;have HI:=hd b5;have HM:=hd hM;clear hg0 hro hrd HB hC b5 hM
  go_enter func80,ntmps80
  go_wp2_with fail
  go_quiet (fail)
  go_wp2_with (first|(go_at_call 87;with_reducible refine(H3.o _).mono ?_;rintro e w'⟨rfl,rfl⟩)|(at_builtin;(refine Kd.fc wF (w0:=w0) w0.heap.size rfl (.tmp 27) (.tmp 30) 101 151 (.agg #[.int .i64 0,.int .i64 0,.int .i64 0]) 24 rfl underlying101 ue rfl (dG 2) (dG 23) (.slice P s.o.length ko) s.o ⟨i,-1,-1⟩ [.int .i64 i,.int .i64 (-1),.int .i64 (-1)] (fun k=>k≠g/\some k≠vd.ownBlock) (fun _=>False) rfl rfl (oq _ _ _ _) (fun _ h=>h.elim) ?fr ?HO ?HB ?hb ?hl ?_);(case fr=>exact fun k hk=>⟨by have:w.heap.size<=k:=hk;omega,fun he=>by have:=Kd.gY pX.o k he.symm;have:w.heap.size<=k:=hk;omega⟩);(case HO=>exact Kd.bU Ab.o _);(case HB=>exact aq cn.o _);(case hb=>exact cn.o.size);(case hl=>omega);intro v1 w1 hR hB hG hat;obtain⟨P1,kk1,rfl⟩:=Kd.ai hR;simp only[List.length_append,List.length_cons,List.length_nil,Nat.zero_add]at hR hat;replace hG:=Nb hG;replace hat:=BC hat;have hg1:w1.heap[g]? =some (.cells #[.slice P s.o.length ko,vd,.int .i64 s.deep] 147 (0,0)):=bD HG.o hG (Kd.uX Ab.o (fun k hk=>hk.1));have d0:=(aa hg1 0).trans rfl;have d1:=(aa hg1 1).trans rfl;have d2:w1.cell? ⟨g,2,none⟩=some (.int .i64 s.deep):=(aa hg1 2).trans rfl;have k0:=ah hg1 0;have k1:=ah hg1 1;have k2:=ah hg1 2;have Ui:=hd (Kd.mm (Kd.bQ pX.o (fun k hk=>⟨hk.1,hk.2⟩)) hG hat);have iK:=hd hR;have bE:=hd hB;have BD:=hd hg1;clear hR hB hG hat hg1 c0 c1 c2 f0 f1 f2))
  all_goals
   go_ret;exact⟨rfl,gU (gU bE.o hbg) hbg,fun s' hs=>by cases hs⟩
theorem EB(w0 w:World)(HB:Below w0.heap.size w0 w)(A:Option Addr)(c:Nat)(code:List aW)(hC:bW.C w0 A code.length code)(i:Nat)(hi:i<code.length)(hl:code.length<=65536)(g:Nat)(s:Sp.yK)(vo vd:Value)(h:mZ w w0.heap.size g s vo vd)(hI:Sp.yL code i s)(hop:(aO code i).f0=5)(hn:s.o.length=0):Calls prog 80 #[.pointer (some ⟨g,0,none⟩),.slice A code.length c,.int .i64 i] w (sQ w0 g (Sp.fo code i s)):=by
 have hM:=h;obtain⟨hg0,hbg,hro,hrd⟩:=h;obtain⟨P,ko,rfl⟩:=Kd.ai hro;obtain⟨ad,A4,c4,rfl,e0,-⟩:=jF (Kd.bJ hC HB) (i:Int) (by omega) (by omega);rw[dF]at e0;obtain⟨b1,b2,b3,b4,b5⟩:=hI;have hi1:(0:Int)<=(i:Int):=by omega
 have hi2:(i:Int)<(code.length:Int):=by omega
 obtain⟨op,iY⟩:=ex ((aO code i).f0);rw[<-iY]at hop e0;have c0:w.cell? ⟨g,0,none⟩=some (.slice P s.o.length ko):=(aa hg0 0).trans rfl;have c1:w.cell? ⟨g,1,none⟩=some (vd):=(aa hg0 1).trans rfl;have c2:w.cell? ⟨g,2,none⟩=some (.int .i64 s.deep):=(aa hg0 2).trans rfl;have f0:=ah hg0 0;have f1:=ah hg0 1;have f2:=ah hg0 2;have nC:=aj hg0;have H3:=hd (fun w=>(show Calls prog 87 #[.int .i64 op] w (fun e w'=>e= .returned (.bool false)/\w=w')from(show Sp.opens op=false by first|exact hop|(simp only[Sp.opens,Sp.within,iy];omega))▸gK op w));have hr:Sp.fo code i s=none:=by unfold Sp.fo;dsimp only;rw[<-iY,hop,if_neg (by decide),if_pos rfl,if_pos (.inl hn)]
 rw[hr];clear hr iY;obtain rfl:op=5:=hop;have BB:((s.o.length:Int)==0)=true:=by simp[hn]
 have HG:=hd hg0;have Ab:=hd hro;have pX:=hd hrd;have cn:=hd HB;have HI:=hd b5;have HM:=hd hM;clear hg0 hro hrd HB hC b5 hM
 go_enter func80,ntmps80
 go_wp2_with fail
 go_quiet (fail)
 go_wp2_with (first|(go_at_call 87;with_reducible refine(H3.o _).mono ?_;rintro e w'⟨rfl,rfl⟩))
 go_ret;exact⟨rfl,aq cn.o _,fun s' hs=>by cases hs⟩
theorem GX(w0 w:World)(HB:Below w0.heap.size w0 w)(A:Option Addr)(c:Nat)(code:List aW)(hC:bW.C w0 A code.length code)(i:Nat)(hi:i<code.length)(hl:code.length<=65536)(g:Nat)(s:Sp.yK)(vo vd:Value)(h:mZ w w0.heap.size g s vo vd)(hI:Sp.yL code i s)(hop:(aO code i).f0=11)(hn:s.o.length=0):Calls prog 80 #[.pointer (some ⟨g,0,none⟩),.slice A code.length c,.int .i64 i] w (sQ w0 g (Sp.fo code i s)):=by
 have hM:=h;obtain⟨hg0,hbg,hro,hrd⟩:=h;obtain⟨P,ko,rfl⟩:=Kd.ai hro;obtain⟨ad,A4,c4,rfl,e0,-⟩:=jF (Kd.bJ hC HB) (i:Int) (by omega) (by omega);rw[dF]at e0;obtain⟨b1,b2,b3,b4,b5⟩:=hI;have hi1:(0:Int)<=(i:Int):=by omega
 have hi2:(i:Int)<(code.length:Int):=by omega
 obtain⟨op,iY⟩:=ex ((aO code i).f0);rw[<-iY]at hop e0;have c0:w.cell? ⟨g,0,none⟩=some (.slice P s.o.length ko):=(aa hg0 0).trans rfl;have c1:w.cell? ⟨g,1,none⟩=some (vd):=(aa hg0 1).trans rfl;have c2:w.cell? ⟨g,2,none⟩=some (.int .i64 s.deep):=(aa hg0 2).trans rfl;have f0:=ah hg0 0;have f1:=ah hg0 1;have f2:=ah hg0 2;have nC:=aj hg0;have H3:=hd (fun w=>(show Calls prog 87 #[.int .i64 op] w (fun e w'=>e= .returned (.bool false)/\w=w')from(show Sp.opens op=false by first|exact hop|(simp only[Sp.opens,Sp.within,iy];omega))▸gK op w));by_cases hm:(i:Int)=code.length-1
 ·have hr:Sp.fo code i s=some s:=by unfold Sp.fo;dsimp only;rw[<-iY,hop,if_neg (by decide),if_neg (by decide),if_neg (by omega),if_pos rfl];simp[hm]
  rw[hr];clear hr iY;obtain rfl:op=11:=hop;have BB:(0<(s.o.length:Int))=False:=by simp[hn]
  have Gk:((i:Int)==(code.length:Int)-1)=true:=by simp;omega
  have hw:wrap64 ((code.length:Int)-1)=(code.length:Int)-1:=by unfold wrap64;omega
  clear hm;have HG:=hd hg0;have Ab:=hd hro;have pX:=hd hrd;have cn:=hd HB;have HI:=hd b5;have HM:=hd hM;clear hg0 hro hrd HB hC b5 hM
  go_enter func80,ntmps80
  go_wp2_with fail
  go_quiet (fail)
  go_wp2_with (first|(go_at_call 87;with_reducible refine(H3.o _).mono ?_;rintro e w'⟨rfl,rfl⟩))
  go_ret;exact⟨rfl,aq cn.o _,fun s' hs=>by injection hs with hs;subst hs;exact⟨_,_,vv HM.o _⟩⟩
 ·have hr:Sp.fo code i s=none:=by unfold Sp.fo;dsimp only;rw[<-iY,hop,if_neg (by decide),if_neg (by decide),if_neg (by omega),if_pos rfl];simp[hm]
  rw[hr];clear hr iY;obtain rfl:op=11:=hop;have BB:(0<(s.o.length:Int))=False:=by simp[hn]
  have Gk:((i:Int)==(code.length:Int)-1)=false:=by simp;omega
  have hw:wrap64 ((code.length:Int)-1)=(code.length:Int)-1:=by unfold wrap64;omega
  clear hm;have HG:=hd hg0;have Ab:=hd hro;have pX:=hd hrd;have cn:=hd HB;have HI:=hd b5;have HM:=hd hM;clear hg0 hro hrd HB hC b5 hM
  go_enter func80,ntmps80
  go_wp2_with fail
  go_quiet (fail)
  go_wp2_with (first|(go_at_call 87;with_reducible refine(H3.o _).mono ?_;rintro e w'⟨rfl,rfl⟩))
  go_ret;exact⟨rfl,aq cn.o _,fun s' hs=>by cases hs⟩
theorem EC(w0 w:World)(HB:Below w0.heap.size w0 w)(A:Option Addr)(c:Nat)(code:List aW)(hC:bW.C w0 A code.length code)(i:Nat)(hi:i<code.length)(hl:code.length<=65536)(g:Nat)(s:Sp.yK)(vo vd:Value)(h:mZ w w0.heap.size g s vo vd)(hI:Sp.yL code i s)(hop:Sp.opens (aO code i).f0=false/\(aO code i).f0≠5/\(aO code i).f0≠11):Calls prog 80 #[.pointer (some ⟨g,0,none⟩),.slice A code.length c,.int .i64 i] w (sQ w0 g (Sp.fo code i s)):=by
 have hM:=h;obtain⟨hg0,hbg,hro,hrd⟩:=h;obtain⟨P,ko,rfl⟩:=Kd.ai hro;obtain⟨ad,A4,c4,rfl,e0,-⟩:=jF (Kd.bJ hC HB) (i:Int) (by omega) (by omega);rw[dF]at e0;obtain⟨b1,b2,b3,b4,b5⟩:=hI;have hi1:(0:Int)<=(i:Int):=by omega
 have hi2:(i:Int)<(code.length:Int):=by omega
 obtain⟨op,iY⟩:=ex ((aO code i).f0);rw[<-iY]at hop e0;have c0:w.cell? ⟨g,0,none⟩=some (.slice P s.o.length ko):=(aa hg0 0).trans rfl;have c1:w.cell? ⟨g,1,none⟩=some (vd):=(aa hg0 1).trans rfl;have c2:w.cell? ⟨g,2,none⟩=some (.int .i64 s.deep):=(aa hg0 2).trans rfl;have f0:=ah hg0 0;have f1:=ah hg0 1;have f2:=ah hg0 2;have nC:=aj hg0;have H3:=hd (fun w=>(show Calls prog 87 #[.int .i64 op] w (fun e w'=>e= .returned (.bool false)/\w=w')from(show Sp.opens op=false by first|exact hop.1|(simp only[Sp.opens,Sp.within,iy];omega))▸gK op w));by_cases hm:(i:Int)<code.length-1
 ·have hr:Sp.fo code i s=some s:=by unfold Sp.fo;dsimp only;rw[<-iY,if_neg (by rw[hop.1];simp),if_neg hop.2.1,if_neg (fun h=>hop.2.2 h.1),if_neg hop.2.2];simp[hm]
  rw[hr];clear hr iY;have q1:(op==5)=false:=by simpa using hop.2.1
  have q2:(op==11)=false:=by simpa using hop.2.2
  clear hop;have Gk:decide ((i:Int)<(code.length:Int)-1)=true:=by simp;omega
  clear hm;have hw:wrap64 ((code.length:Int)-1)=(code.length:Int)-1:=by unfold wrap64;omega
  have HG:=hd hg0;have Ab:=hd hro;have pX:=hd hrd;have cn:=hd HB;have HI:=hd b5;have HM:=hd hM;clear hg0 hro hrd HB hC b5 hM
  go_enter func80,ntmps80
  go_wp2_with fail
  go_quiet (fail)
  go_wp2_with (first|(go_at_call 87;with_reducible refine(H3.o _).mono ?_;rintro e w'⟨rfl,rfl⟩))
  go_ret;exact⟨rfl,aq cn.o _,fun s' hs=>by injection hs with hs;subst hs;exact⟨_,_,vv HM.o _⟩⟩
 ·have hr:Sp.fo code i s=none:=by unfold Sp.fo;dsimp only;rw[<-iY,if_neg (by rw[hop.1];simp),if_neg hop.2.1,if_neg (fun h=>hop.2.2 h.1),if_neg hop.2.2];simp[hm]
  rw[hr];clear hr iY;have q1:(op==5)=false:=by simpa using hop.2.1
  have q2:(op==11)=false:=by simpa using hop.2.2
  clear hop;have Gk:decide ((i:Int)<(code.length:Int)-1)=false:=by simp;omega
  clear hm;have hw:wrap64 ((code.length:Int)-1)=(code.length:Int)-1:=by unfold wrap64;omega
  have HG:=hd hg0;have Ab:=hd hro;have pX:=hd hrd;have cn:=hd HB;have HI:=hd b5;have HM:=hd hM;clear hg0 hro hrd HB hC b5 hM
  go_enter func80,ntmps80
  go_wp2_with fail
  go_quiet (fail)
  go_wp2_with (first|(go_at_call 87;with_reducible refine(H3.o _).mono ?_;rintro e w'⟨rfl,rfl⟩))
  go_ret;exact⟨rfl,aq cn.o _,fun s' hs=>by cases hs⟩
theorem ED(w0 w:World)(HB:Below w0.heap.size w0 w)(A:Option Addr)(c:Nat)(code:List aW)(hC:bW.C w0 A code.length code)(i:Nat)(hi:i<code.length)(hl:code.length<=65536)(g:Nat)(s:Sp.yK)(vo vd:Value)(h:mZ w w0.heap.size g s vo vd)(hI:Sp.yL code i s)(hop:(aO code i).f0=5)(hn:0<s.o.length):Calls prog 80 #[.pointer (some ⟨g,0,none⟩),.slice A code.length c,.int .i64 i] w (sQ w0 g (Sp.fo code i s)):=by
 have hM:=h;obtain⟨hg0,hbg,hro,hrd⟩:=h;obtain⟨gb,cap,rfl,Uj,ug,cells,hcells⟩:=Kd.qz hro hn;have GY:gb≠g:=(hro.1 gb (by simp[Value.ownBlock])).1;obtain⟨ad,A4,c4,rfl,e0,-⟩:=jF (Kd.bJ hC HB) (i:Int) (by omega) (by omega);rw[dF]at e0;obtain⟨b1,b2,b3,b4,b5⟩:=hI;have hi1:(0:Int)<=(i:Int):=by omega
 have hi2:(i:Int)<(code.length:Int):=by omega
 obtain⟨op,iY⟩:=ex ((aO code i).f0);rw[<-iY]at hop e0;obtain⟨j,hj⟩: ∃j,s.o.length=j+1:=⟨s.o.length-1,by omega⟩;obtain⟨q0,q1⟩:=b5 (j:Int) (by omega) (by omega);have nc:s.last=dZ s.o (j:Int):=by unfold Sp.yK.last;rw[hj];congr 1;omega
 obtain⟨cs,lJ,qc,hcc,oJ⟩:=Kd.kR hro su (j:Int) (by omega) (by omega);have hcs:=nJ qc;subst hcs;rw[dF]at hcc oJ;obtain⟨z,hz⟩:=ex (dZ s.o (j:Int));rw[show s.o.getD j su=z from hz.symm]at hcc;rw[<-hz]at nc q0 q1;have m0:w.cell? ⟨gb,j*3,none⟩=some (.int .i64 z.f0):=hcc 0 _ rfl;have m1:w.cell? ⟨gb,j*3+1,none⟩=some (.int .i64 z.f1):=hcc 1 _ rfl;have m2:w.cell? ⟨gb,j*3+2,none⟩=some (.int .i64 z.f2):=hcc 2 _ rfl;have m3:w.frozen? ⟨gb,j*3+1,none⟩=false:=oJ 1;have Uk:((s.o.length:Nat):Int)=(j:Int)+1:=by omega
 have c0:w.cell? ⟨g,0,none⟩=some (.slice (some ⟨gb,0,none⟩) (j+1) cap):=by rw[<-hj];exact(aa hg0 0).trans rfl
 have c1:w.cell? ⟨g,1,none⟩=some (vd):=(aa hg0 1).trans rfl;have c2:w.cell? ⟨g,2,none⟩=some (.int .i64 s.deep):=(aa hg0 2).trans rfl;have f0:=ah hg0 0;have f1:=ah hg0 1;have f2:=ah hg0 2;have nC:=aj hg0;have hj0:(0:Int)<=(j:Int):=by omega
 have hj1:(j:Int)<(j:Int)+1:=by omega
 have hj2:(j:Int)<((j+1:Nat):Int):=by omega
 have BB:(((j:Int)+1)==0)=false:=by simp;omega
 have hn2:((((j+1:Nat):Int))==0)=false:=by simp;omega
 have H3:=hd (fun w=>(show Calls prog 87 #[.int .i64 op] w (fun e w'=>e= .returned (.bool false)/\w=w')from(show Sp.opens op=false by(simp only[Sp.opens,Sp.within,iy];omega))▸gK op w));obtain⟨Tb,A5,c5,ha2,u0,-⟩:=jF (Kd.bJ hC HB) z.f0 q0 q1;obtain rfl:ad=Tb:=by injection ha2
 obtain⟨op2,EE⟩:=ex ((aO code z.f0).f0);rw[<-EE]at u0;by_cases h4:op2=4
 ·by_cases h1:z.f1= -1
  ·have g1:(op2 !=4)=false:=by simpa using h4
   have g2:(z.f1 != -1)=false:=by simpa using h1
   by_cases hm:(i:Int)<code.length-1
   ·have hr:Sp.fo code i s=some ⟨s.o.set (s.o.length-1) ⟨z.f0,i,z.f2⟩,s.d,s.deep⟩:=by unfold Sp.fo;dsimp only;rw[<-iY,hop,if_neg (by decide),if_pos rfl,nc];rw[if_neg (by rw[<-EE];omega)];simp[hm]
    rw[hr];clear hr EE iY h4 h1;obtain rfl:op=5:=hop;have Gk:decide ((i:Int)<(code.length:Int)-1)=true:=by simp;omega
    clear hm;have hw:wrap64 ((code.length:Int)-1)=(code.length:Int)-1:=by unfold wrap64;omega
    have hw0:=Ez (j:=j) (by omega);have HG:=hd hg0;have Ab:=hd hro;have pX:=hd hrd;have cn:=hd HB;have HI:=hd b5;have HM:=hd hM;have XJ:=hd qc;have yN:=hd hcc;have HJ:=hd hj;have HZ:=hd hz;have EF:=hd GY;clear hg0 hro hrd HB hC b5 hM hcells qc hcc oJ lJ hj hz Uk hn nc ug
    go_enter func80,ntmps80
    go_wp2_with fail
    go_quiet (fail)
    go_wp2_with (first|(go_at_call 87;with_reducible refine(H3.o _).mono ?_;rintro e w'⟨rfl,rfl⟩))
    go_ret;refine⟨rfl,gU (aq cn.o _) Uj,fun s' hs=>?_⟩;injection hs with hs;subst hs;exact⟨_,_,Kj (vv HM.o _) HJ.o HZ.o⟩
   ·have hr:Sp.fo code i s=none:=by unfold Sp.fo;dsimp only;rw[<-iY,hop,if_neg (by decide),if_pos rfl,nc];rw[if_neg (by rw[<-EE];omega)];simp[hm]
    rw[hr];clear hr EE iY h4 h1;obtain rfl:op=5:=hop;have Gk:decide ((i:Int)<(code.length:Int)-1)=false:=by simp;omega
    clear hm;have hw:wrap64 ((code.length:Int)-1)=(code.length:Int)-1:=by unfold wrap64;omega
    have hw0:=Ez (j:=j) (by omega);have HG:=hd hg0;have Ab:=hd hro;have pX:=hd hrd;have cn:=hd HB;have HI:=hd b5;have HM:=hd hM;have XJ:=hd qc;have yN:=hd hcc;have HJ:=hd hj;have HZ:=hd hz;have EF:=hd GY;clear hg0 hro hrd HB hC b5 hM hcells qc hcc oJ lJ hj hz Uk hn nc ug
    go_enter func80,ntmps80
    go_wp2_with fail
    go_quiet (fail)
    go_wp2_with (first|(go_at_call 87;with_reducible refine(H3.o _).mono ?_;rintro e w'⟨rfl,rfl⟩))
    go_ret;exact⟨rfl,gU (aq cn.o _) Uj,fun s' hs=>by cases hs⟩
  ·have g1:(op2 !=4)=false:=by simpa using h4
   have g2:(z.f1 != -1)=true:=by simpa using h1
   have hr:Sp.fo code i s=none:=by unfold Sp.fo;dsimp only;rw[<-iY,hop,if_neg (by decide),if_pos rfl,nc];rw[if_pos (.inr (.inr h1))]
   rw[hr];clear hr EE iY h4 h1;obtain rfl:op=5:=hop;have hw0:=Ez (j:=j) (by omega);have HG:=hd hg0;have Ab:=hd hro;have pX:=hd hrd;have cn:=hd HB;have HI:=hd b5;have HM:=hd hM;have XJ:=hd qc;have yN:=hd hcc;have HJ:=hd hj;have HZ:=hd hz;have EF:=hd GY;clear hg0 hro hrd HB hC b5 hM hcells qc hcc oJ lJ hj hz Uk hn nc ug
   go_enter func80,ntmps80
   go_wp2_with fail
   go_quiet (fail)
   go_wp2_with (first|(go_at_call 87;with_reducible refine(H3.o _).mono ?_;rintro e w'⟨rfl,rfl⟩))
   go_ret;exact⟨rfl,aq cn.o _,fun s' hs=>by cases hs⟩
 ·have g1:(op2 !=4)=true:=by simpa using h4
  have hr:Sp.fo code i s=none:=by unfold Sp.fo;dsimp only;rw[<-iY,hop,if_neg (by decide),if_pos rfl,nc];rw[if_pos (.inr (.inl (by rw[<-EE];exact h4)))]
  rw[hr];clear hr EE iY h4;obtain rfl:op=5:=hop;have hw0:=Ez (j:=j) (by omega);have HG:=hd hg0;have Ab:=hd hro;have pX:=hd hrd;have cn:=hd HB;have HI:=hd b5;have HM:=hd hM;have XJ:=hd qc;have yN:=hd hcc;have HJ:=hd hj;have HZ:=hd hz;have EF:=hd GY;clear hg0 hro hrd HB hC b5 hM hcells qc hcc oJ lJ hj hz Uk hn nc ug
  go_enter func80,ntmps80
  go_wp2_with fail
  go_quiet (fail)
  go_wp2_with (first|(go_at_call 87;with_reducible refine(H3.o _).mono ?_;rintro e w'⟨rfl,rfl⟩))
  go_ret;exact⟨rfl,aq cn.o _,fun s' hs=>by cases hs⟩
theorem GZ(w0 w:World)(HB:Below w0.heap.size w0 w)(A:Option Addr)(c:Nat)(code:List aW)(hC:bW.C w0 A code.length code)(i:Nat)(hi:i<code.length)(hl:code.length<=65536)(g:Nat)(s:Sp.yK)(vo vd:Value)(h:mZ w w0.heap.size g s vo vd)(hI:Sp.yL code i s)(hop:(aO code i).f0=11)(hn:0<s.o.length):Calls prog 80 #[.pointer (some ⟨g,0,none⟩),.slice A code.length c,.int .i64 i] w (sQ w0 g (Sp.fo code i s)):=by
 have hM:=h;obtain⟨hg0,hbg,hro,hrd⟩:=h;obtain⟨gb,cap,rfl,Uj,ug,cells,hcells⟩:=Kd.qz hro hn;have GY:gb≠g:=(hro.1 gb (by simp[Value.ownBlock])).1;obtain⟨ad,A4,c4,rfl,e0,-⟩:=jF (Kd.bJ hC HB) (i:Int) (by omega) (by omega);rw[dF]at e0;obtain⟨b1,b2,b3,b4,b5⟩:=hI;have hi1:(0:Int)<=(i:Int):=by omega
 have hi2:(i:Int)<(code.length:Int):=by omega
 obtain⟨op,iY⟩:=ex ((aO code i).f0);rw[<-iY]at hop e0;obtain⟨j,hj⟩: ∃j,s.o.length=j+1:=⟨s.o.length-1,by omega⟩;obtain⟨q0,q1⟩:=b5 (j:Int) (by omega) (by omega);have nc:s.last=dZ s.o (j:Int):=by unfold Sp.yK.last;rw[hj];congr 1;omega
 obtain⟨cs,lJ,qc,hcc,oJ⟩:=Kd.kR hro su (j:Int) (by omega) (by omega);have hcs:=nJ qc;subst hcs;rw[dF]at hcc oJ;obtain⟨z,hz⟩:=ex (dZ s.o (j:Int));rw[show s.o.getD j su=z from hz.symm]at hcc;rw[<-hz]at nc q0 q1;have m0:w.cell? ⟨gb,j*3,none⟩=some (.int .i64 z.f0):=hcc 0 _ rfl;have m1:w.cell? ⟨gb,j*3+1,none⟩=some (.int .i64 z.f1):=hcc 1 _ rfl;have m2:w.cell? ⟨gb,j*3+2,none⟩=some (.int .i64 z.f2):=hcc 2 _ rfl;have m3:w.frozen? ⟨gb,j*3+1,none⟩=false:=oJ 1;have Uk:((s.o.length:Nat):Int)=(j:Int)+1:=by omega
 have c0:w.cell? ⟨g,0,none⟩=some (.slice (some ⟨gb,0,none⟩) (j+1) cap):=by rw[<-hj];exact(aa hg0 0).trans rfl
 have c1:w.cell? ⟨g,1,none⟩=some (vd):=(aa hg0 1).trans rfl;have c2:w.cell? ⟨g,2,none⟩=some (.int .i64 s.deep):=(aa hg0 2).trans rfl;have f0:=ah hg0 0;have f1:=ah hg0 1;have f2:=ah hg0 2;have nC:=aj hg0;have hj0:(0:Int)<=(j:Int):=by omega
 have hj1:(j:Int)<(j:Int)+1:=by omega
 have hj2:(j:Int)<((j+1:Nat):Int):=by omega
 have BB:(((j:Int)+1)==0)=false:=by simp;omega
 have hn2:((((j+1:Nat):Int))==0)=false:=by simp;omega
 have H3:=hd (fun w=>(show Calls prog 87 #[.int .i64 op] w (fun e w'=>e= .returned (.bool false)/\w=w')from(show Sp.opens op=false by(simp only[Sp.opens,Sp.within,iy];omega))▸gK op w));obtain⟨Q,kd,rfl⟩:=Kd.ai hrd;by_cases hm:(i:Int)<code.length-1
 ·have hr:Sp.fo code i s=some ⟨s.o.take (s.o.length-1),s.d++ [⟨z.f0,z.f1,i⟩],s.deep⟩:=by unfold Sp.fo;dsimp only;rw[<-iY,hop,if_neg (by decide),if_neg (by decide),if_pos ⟨rfl,hn⟩,nc];simp[hm]
  rw[hr];clear hr iY;obtain rfl:op=11:=hop;have Gk:decide ((i:Int)<(code.length:Int)-1)=true:=by simp;omega
  clear hm;have hw:wrap64 ((code.length:Int)-1)=(code.length:Int)-1:=by unfold wrap64;omega
  have hnp:decide (0<(j:Int)+1)=true:=iz (by omega);have hwi:IntKind.i64.wrap (j:Int)=(j:Int):=(Aw _).trans (Ez (by omega));have hcap:(j:Int)<=(cap:Int):=by have:=(Kd.bA hro).2.1;omega
  have Ul:=hd (show g<w.heap.size/\gb<w.heap.size from⟨nC,ug⟩);have hw0:=Ez (j:=j) (by omega);have HG:=hd hg0;have Ab:=hd hro;have pX:=hd hrd;have cn:=hd HB;have HI:=hd b5;have HM:=hd hM;have XJ:=hd qc;have yN:=hd hcc;have HJ:=hd hj;have HZ:=hd hz;have EF:=hd GY;clear hg0 hro hrd HB hC b5 hM hcells qc hcc oJ lJ hj hz Uk hn nc ug
  go_enter func80,ntmps80
  go_wp2_with fail
  go_quiet (fail)
  generalize hW:w.drewN nq=W;replace c0:=jL hW c0;replace c1:=jL hW c1;replace c2:=jL hW c2;replace m0:=jL hW m0;replace m1:=jL hW m1;replace m2:=jL hW m2;replace f0:=mJ hW f0;replace f1:=mJ hW f1;replace f2:=mJ hW f2;replace nC:=rQ hW nC;have HG:=hd (Jm hW HG.o);have Ab:=hd (uf hW Ab.o);have pX:=hd (uf hW pX.o);have cn:=hd (Ey hW cn.o);have Ul:=hd (And.intro (rQ hW Ul.o.1) (rQ hW Ul.o.2));clear hW m3
  go_wp2_with (first|(go_at_call 87;with_reducible refine(H3.o _).mono ?_;rintro e w'⟨rfl,rfl⟩))
  have x0:(W.alloc (.cells #[.int .i64 z.f0,.int .i64 z.f1,.int .i64 i] 151)).drew.cell? ⟨g,0,none⟩=some (.slice (some ⟨gb,0,none⟩) (j+1) cap):=ak c0;have x1:(W.alloc (.cells #[.int .i64 z.f0,.int .i64 z.f1,.int .i64 i] 151)).drew.cell? ⟨g,1,none⟩=some (.slice Q s.d.length kd):=ak c1;have x2:(W.alloc (.cells #[.int .i64 z.f0,.int .i64 z.f1,.int .i64 i] 151)).drew.cell? ⟨W.heap.size,0,none⟩=some (.int .i64 z.f0):=by simp[go_sem]
  have x3:(W.alloc (.cells #[.int .i64 z.f0,.int .i64 z.f1,.int .i64 i] 151)).drew.cell? ⟨W.heap.size,1,none⟩=some (.int .i64 z.f1):=by simp[go_sem]
  have x4:(W.alloc (.cells #[.int .i64 z.f0,.int .i64 z.f1,.int .i64 i] 151)).drew.cell? ⟨W.heap.size,2,none⟩=some (.int .i64 i):=by simp[go_sem]
  refine st 22 (fun w'=>w'.cell? ⟨g,0,none⟩=some (.slice (some ⟨gb,0,none⟩) (j+1) cap)/\w'.cell? ⟨g,1,none⟩=some (.slice Q s.d.length kd)/\w'.cell? ⟨W.heap.size,0,none⟩=some (.int .i64 z.f0)/\w'.cell? ⟨W.heap.size,1,none⟩=some (.int .i64 z.f1)/\w'.cell? ⟨W.heap.size,2,none⟩=some (.int .i64 i)) [18,21] ⟨x0,x1,x2,x3,x4⟩ (fun ag=>?_);generalize hV:(W.alloc (.cells #[.int .i64 z.f0,.int .i64 z.f1,.int .i64 i] 151)).drew=V at ag⊢;have vB:Below w0.heap.size w0 V:=hV▸aN (af cn.o _);have vR:kA V w0.heap.size (fun k=>k≠g/\some k≠(Value.slice (some ⟨gb,0,none⟩) s.o.length cap).ownBlock) (.slice Q s.d.length kd) s.d:=hV▸Kd.fu (Kd.aZ pX.o _);have vO:kA V w0.heap.size (fun k=>k≠g/\some k≠(Value.slice Q s.d.length kd).ownBlock) (.slice (some ⟨gb,0,none⟩) s.o.length cap) s.o:=hV▸Kd.fu (Kd.aZ Ab.o _);have vG:V.heap[g]? =some (.cells #[.slice (some ⟨gb,0,none⟩) s.o.length cap,.slice Q s.d.length kd,.int .i64 s.deep] 147 (0,0)):=hV▸bh HG.o _;have vL:=aj vG;have vX:V.heap.size=W.heap.size+1:=by rw[<-hV];simp
  have G0:W.heap.size<V.heap.size:=by omega
  have Um: ¬some W.heap.size=(Value.slice Q s.d.length kd).ownBlock:=fun he=>by have:=Kd.gY pX.o _ he.symm;omega
  have XK:=hd vO;have XL:=hd vR;have XM:=hd vB;have vHG:=hd vG;clear hV vO vR vB vG x0 x1 x2 x3 x4;refine cZ 0 103 1 104 2 105 ?_;refine pu2 3 106 4 107 ?_;refine tk 5 108 ag ?_;refine cZ 6 109 7 110 8 111 ?_;refine cZ 9 112 10 113 11 114 ?_;refine tk 12 115 ag ?_;refine tk 13 116 ag ?_;refine on 14 (some 117) (fun K hK=>?_);rw[if_pos (by rfl)]
  go_simp
  refine hK.o _ _ (by obtain⟨s0,s1,s2,s3,s4⟩:=ag;exact⟨ak s0,ak s1,ak s2,ak s3,ak s4⟩) (fun ag=>?_);clear hK K;refine on 15 (some 118) (fun K hK=>?_);refine Kd.gP wF (w0:=w0) (W:=V) w0.heap.size (by rfl) (.tmp 115) (.tmp 117) 101 151 (.agg #[.int .i64 0,.int .i64 0,.int .i64 0]) 24 (by rfl) underlying101 ue rfl (dG 2) (dG 23) (.slice Q s.d.length kd) s.d ⟨z.f0,z.f1,i⟩ [.int .i64 z.f0,.int .i64 z.f1,.int .i64 i] (fun k=>k≠g/\some k≠(Value.slice (some ⟨gb,0,none⟩) s.o.length cap).ownBlock) (fun _=>False) (by rfl) (by rw[vX];rfl) (oq _ _ _ _) (fun _ h=>h.elim) ?fr XL.o XM.o XM.o.size (by omega) ?_
  case fr=>exact fun k hk=>⟨by omega,fun he=>by have:=Kd.gY XK.o k he.symm;omega⟩
  intro v1 w1 hR hB hG hat;obtain⟨P1,kk1,rfl⟩:=Kd.ai hR;simp only[List.length_append,List.length_cons,List.length_nil,Nat.zero_add]at hR hat;have hg1:w1.heap[g]? =some (.cells #[.slice (some ⟨gb,0,none⟩) s.o.length cap,.slice Q s.d.length kd,.int .i64 s.deep] 147 (0,0)):=bD vHG.o hG (Kd.uX XL.o (fun k hk=>hk.1));have Tc: ∀q u,V.cell? ⟨W.heap.size,q,none⟩=some u->w1.cell? ⟨W.heap.size,q,none⟩=some u:=fun q u h=>hG.cell h (fun he=>Um he)
  have HO1:=hd (Kd.mm (ok:=fun k=>k≠g) (Kd.bQ XK.o (fun k hk=>⟨hk.1,hk.2⟩)) hG hat);have iK:=hd hR;have bE:=hd hB;have BD:=hd hg1;refine hK.o _ _ (by obtain⟨s0,s1,s2,s3,s4⟩:=ag;exact⟨by rw[<-HJ.o];exact(aa BD.o 0).trans rfl,(aa BD.o 1).trans rfl,Tc 0 _ (mK s2 G0),Tc 1 _ (mK s3 G0),Tc 2 _ (mK s4 G0)⟩) (fun ag=>?_);clear hK K;refine nm ?_;have y0:=(aa BD.o 0).trans rfl;have y1:=(aa BD.o 1).trans rfl;have z0:=ah BD.o 0;have z1:=ah BD.o 1;refine pu2 16 119 17 120 ?_;refine la 18 ?_;refine pu2 19 121 20 122 ?_;refine la 21 ?_;refine dn ?_
  go_wp2_with fail
  go_ret;refine⟨rfl,gU (gU bE.o hbg) hbg,fun s' hs=>?_⟩;injection hs with hs;subst hs;exact⟨_,_,Kk BD.o hbg HJ.o HO1.o iK.o⟩
 ·have hr:Sp.fo code i s=none:=by unfold Sp.fo;dsimp only;rw[<-iY,hop,if_neg (by decide),if_neg (by decide),if_pos ⟨rfl,hn⟩,nc];simp[hm]
  rw[hr];clear hr iY;obtain rfl:op=11:=hop;have Gk:decide ((i:Int)<(code.length:Int)-1)=false:=by simp;omega
  clear hm;have hw:wrap64 ((code.length:Int)-1)=(code.length:Int)-1:=by unfold wrap64;omega
  have hnp:decide (0<(j:Int)+1)=true:=iz (by omega);have hwi:IntKind.i64.wrap (j:Int)=(j:Int):=(Aw _).trans (Ez (by omega));have hcap:(j:Int)<=(cap:Int):=by have:=(Kd.bA hro).2.1;omega
  have Ul:=hd (show g<w.heap.size/\gb<w.heap.size from⟨nC,ug⟩);have hw0:=Ez (j:=j) (by omega);have HG:=hd hg0;have Ab:=hd hro;have pX:=hd hrd;have cn:=hd HB;have HI:=hd b5;have HM:=hd hM;have XJ:=hd qc;have yN:=hd hcc;have HJ:=hd hj;have HZ:=hd hz;have EF:=hd GY;clear hg0 hro hrd HB hC b5 hM hcells qc hcc oJ lJ hj hz Uk hn nc ug
  go_enter func80,ntmps80
  go_wp2_with fail
  go_quiet (fail)
  generalize hW:w.drewN nq=W;replace c0:=jL hW c0;replace c1:=jL hW c1;replace c2:=jL hW c2;replace m0:=jL hW m0;replace m1:=jL hW m1;replace m2:=jL hW m2;replace f0:=mJ hW f0;replace f1:=mJ hW f1;replace f2:=mJ hW f2;replace nC:=rQ hW nC;have HG:=hd (Jm hW HG.o);have Ab:=hd (uf hW Ab.o);have pX:=hd (uf hW pX.o);have cn:=hd (Ey hW cn.o);have Ul:=hd (And.intro (rQ hW Ul.o.1) (rQ hW Ul.o.2));clear hW m3
  go_wp2_with (first|(go_at_call 87;with_reducible refine(H3.o _).mono ?_;rintro e w'⟨rfl,rfl⟩))
  have x0:(W.alloc (.cells #[.int .i64 z.f0,.int .i64 z.f1,.int .i64 i] 151)).drew.cell? ⟨g,0,none⟩=some (.slice (some ⟨gb,0,none⟩) (j+1) cap):=ak c0;have x1:(W.alloc (.cells #[.int .i64 z.f0,.int .i64 z.f1,.int .i64 i] 151)).drew.cell? ⟨g,1,none⟩=some (.slice Q s.d.length kd):=ak c1;have x2:(W.alloc (.cells #[.int .i64 z.f0,.int .i64 z.f1,.int .i64 i] 151)).drew.cell? ⟨W.heap.size,0,none⟩=some (.int .i64 z.f0):=by simp[go_sem]
  have x3:(W.alloc (.cells #[.int .i64 z.f0,.int .i64 z.f1,.int .i64 i] 151)).drew.cell? ⟨W.heap.size,1,none⟩=some (.int .i64 z.f1):=by simp[go_sem]
  have x4:(W.alloc (.cells #[.int .i64 z.f0,.int .i64 z.f1,.int .i64 i] 151)).drew.cell? ⟨W.heap.size,2,none⟩=some (.int .i64 i):=by simp[go_sem]
  refine st 22 (fun w'=>w'.cell? ⟨g,0,none⟩=some (.slice (some ⟨gb,0,none⟩) (j+1) cap)/\w'.cell? ⟨g,1,none⟩=some (.slice Q s.d.length kd)/\w'.cell? ⟨W.heap.size,0,none⟩=some (.int .i64 z.f0)/\w'.cell? ⟨W.heap.size,1,none⟩=some (.int .i64 z.f1)/\w'.cell? ⟨W.heap.size,2,none⟩=some (.int .i64 i)) [18,21] ⟨x0,x1,x2,x3,x4⟩ (fun ag=>?_);generalize hV:(W.alloc (.cells #[.int .i64 z.f0,.int .i64 z.f1,.int .i64 i] 151)).drew=V at ag⊢;have vB:Below w0.heap.size w0 V:=hV▸aN (af cn.o _);have vR:kA V w0.heap.size (fun k=>k≠g/\some k≠(Value.slice (some ⟨gb,0,none⟩) s.o.length cap).ownBlock) (.slice Q s.d.length kd) s.d:=hV▸Kd.fu (Kd.aZ pX.o _);have vO:kA V w0.heap.size (fun k=>k≠g/\some k≠(Value.slice Q s.d.length kd).ownBlock) (.slice (some ⟨gb,0,none⟩) s.o.length cap) s.o:=hV▸Kd.fu (Kd.aZ Ab.o _);have vG:V.heap[g]? =some (.cells #[.slice (some ⟨gb,0,none⟩) s.o.length cap,.slice Q s.d.length kd,.int .i64 s.deep] 147 (0,0)):=hV▸bh HG.o _;have vL:=aj vG;have vX:V.heap.size=W.heap.size+1:=by rw[<-hV];simp
  have G0:W.heap.size<V.heap.size:=by omega
  have Um: ¬some W.heap.size=(Value.slice Q s.d.length kd).ownBlock:=fun he=>by have:=Kd.gY pX.o _ he.symm;omega
  have XK:=hd vO;have XL:=hd vR;have XM:=hd vB;have vHG:=hd vG;clear hV vO vR vB vG x0 x1 x2 x3 x4;refine cZ 0 103 1 104 2 105 ?_;refine pu2 3 106 4 107 ?_;refine tk 5 108 ag ?_;refine cZ 6 109 7 110 8 111 ?_;refine cZ 9 112 10 113 11 114 ?_;refine tk 12 115 ag ?_;refine tk 13 116 ag ?_;refine on 14 (some 117) (fun K hK=>?_);rw[if_pos (by rfl)]
  go_simp
  refine hK.o _ _ (by obtain⟨s0,s1,s2,s3,s4⟩:=ag;exact⟨ak s0,ak s1,ak s2,ak s3,ak s4⟩) (fun ag=>?_);clear hK K;refine on 15 (some 118) (fun K hK=>?_);refine Kd.gP wF (w0:=w0) (W:=V) w0.heap.size (by rfl) (.tmp 115) (.tmp 117) 101 151 (.agg #[.int .i64 0,.int .i64 0,.int .i64 0]) 24 (by rfl) underlying101 ue rfl (dG 2) (dG 23) (.slice Q s.d.length kd) s.d ⟨z.f0,z.f1,i⟩ [.int .i64 z.f0,.int .i64 z.f1,.int .i64 i] (fun k=>k≠g/\some k≠(Value.slice (some ⟨gb,0,none⟩) s.o.length cap).ownBlock) (fun _=>False) (by rfl) (by rw[vX];rfl) (oq _ _ _ _) (fun _ h=>h.elim) ?fr XL.o XM.o XM.o.size (by omega) ?_
  case fr=>exact fun k hk=>⟨by omega,fun he=>by have:=Kd.gY XK.o k he.symm;omega⟩
  intro v1 w1 hR hB hG hat;obtain⟨P1,kk1,rfl⟩:=Kd.ai hR;simp only[List.length_append,List.length_cons,List.length_nil,Nat.zero_add]at hR hat;have hg1:w1.heap[g]? =some (.cells #[.slice (some ⟨gb,0,none⟩) s.o.length cap,.slice Q s.d.length kd,.int .i64 s.deep] 147 (0,0)):=bD vHG.o hG (Kd.uX XL.o (fun k hk=>hk.1));have Tc: ∀q u,V.cell? ⟨W.heap.size,q,none⟩=some u->w1.cell? ⟨W.heap.size,q,none⟩=some u:=fun q u h=>hG.cell h (fun he=>Um he)
  have HO1:=hd (Kd.mm (ok:=fun k=>k≠g) (Kd.bQ XK.o (fun k hk=>⟨hk.1,hk.2⟩)) hG hat);have iK:=hd hR;have bE:=hd hB;have BD:=hd hg1;refine hK.o _ _ (by obtain⟨s0,s1,s2,s3,s4⟩:=ag;exact⟨by rw[<-HJ.o];exact(aa BD.o 0).trans rfl,(aa BD.o 1).trans rfl,Tc 0 _ (mK s2 G0),Tc 1 _ (mK s3 G0),Tc 2 _ (mK s4 G0)⟩) (fun ag=>?_);clear hK K;refine nm ?_;have y0:=(aa BD.o 0).trans rfl;have y1:=(aa BD.o 1).trans rfl;have z0:=ah BD.o 0;have z1:=ah BD.o 1;refine pu2 16 119 17 120 ?_;refine la 18 ?_;refine pu2 19 121 20 122 ?_;refine la 21 ?_;refine dn ?_
  go_wp2_with fail
  go_ret;exact⟨rfl,gU (gU bE.o hbg) hbg,fun s' hs=>by cases hs⟩
theorem G3(w0 w:World)(HB:Below w0.heap.size w0 w)(A:Option Addr)(c:Nat)(code:List aW)(hC:bW.C w0 A code.length code)(i:Nat)(hi:i<code.length)(hl:code.length<=65536)(g:Nat)(s:Sp.yK)(vo vd:Value)(h:mZ w w0.heap.size g s vo vd)(hI:Sp.yL code i s):Calls prog 80 #[.pointer (some ⟨g,0,none⟩),.slice A code.length c,.int .i64 i] w (sQ w0 g (Sp.fo code i s)):=by
 by_cases h1:Sp.opens (aO code i).f0=true
 ·exact EA w0 w HB A c code hC i hi hl g s vo vd h hI h1
 ·by_cases h5:(aO code i).f0=5
  ·by_cases hn:s.o.length=0
   ·exact EB w0 w HB A c code hC i hi hl g s vo vd h hI h5 hn
   ·exact ED w0 w HB A c code hC i hi hl g s vo vd h hI h5 (by omega)
  ·by_cases h11:(aO code i).f0=11
   ·by_cases hn:s.o.length=0
    ·exact GX w0 w HB A c code hC i hi hl g s vo vd h hI h11 hn
    ·exact GZ w0 w HB A c code hC i hi hl g s vo vd h hI h11 (by omega)
   ·exact EC w0 w HB A c code hC i hi hl g s vo vd h hI ⟨by simpa using h1,h5,h11⟩
abbrev iG(w:World)(base:Nat)(ok:Nat->Prop)(v:Value)(xs:List xB):Prop:=L3.R 113 w base ok v xs
abbrev bl(w:World)(base:Nat)(ok:Nat->Prop)(v:Value)(xs:List Int):Prop:=(Kd.int .i64).R 3 w base ok v xs
def ee(fx:List Value)(vT vF:Value)(bad:Bool):Array Value:=(fx++ [vT,vF,.bool bad]).toArray
theorem kY{fx:List Value}(h:fx.length=11)(vT vF:Value)(b:Bool):(ee fx vT vF b)[11]? =some vT:=by simp[ee,List.getElem?_append,h]
theorem dN{fx:List Value}(h:fx.length=11)(vT vF:Value)(b:Bool):(ee fx vT vF b)[12]? =some vF:=by simp[ee,List.getElem?_append,h]
theorem dy{fx:List Value}(h:fx.length=11)(vT vF:Value)(b:Bool):(ee fx vT vF b)[13]? =some (.bool b):=by simp[ee,List.getElem?_append,h]
theorem Kl{fx:List Value}(h:fx.length=11)(vT vF u:Value)(b:Bool):(ee fx vT vF b).setIfInBounds 11 u=ee fx u vF b:=by simp[ee,List.set_append,h]
theorem BF{fx:List Value}(h:fx.length=11)(vT vF u:Value)(b:Bool):(ee fx vT vF b).setIfInBounds 12 u=ee fx vT u b:=by simp[ee,List.set_append,h]
theorem Km{fx:List Value}(h:fx.length=11)(vT vF:Value)(b c:Bool):(ee fx vT vF b).setIfInBounds 13 (.bool c)=ee fx vT vF c:=by simp[ee,List.set_append,h]
structure Td(D:Nat->Prop)(w w':World):Prop where
 os:w'.os=w.os
 tape:w'.tape=w.tape
 output:w'.output=w.output
 size:w.heap.size<=w'.heap.size
 block: ∀k,D k->w'.heap[k]? =w.heap[k]?
def aJ(w:World)(base g:Nat)(D:Nat->Prop)(fx:List Value)(s:Sp.St)(vT vF:Value):Prop:=
 w.heap[g]? =some (.cells (ee fx vT vF s.bad) 111 (0,0))/\fx.length=11/\base<=g/\ ¬D g/\
 bl w base (fun k=>k≠g/\some k≠vF.ownBlock/\ ¬D k) vT s.T/\iG w base (fun k=>k≠g/\some k≠vT.ownBlock) vF s.F/\(∀k,vF.ownBlock=some k-> ¬D k)/\(∀k,D k->k<w.heap.size)
theorem bT{w:World}{base g:Nat}{D:Nat->Prop}{fx:List Value}{s:Sp.St}{vT vF:Value}(h:aJ w base g D fx s vT vF)(n:Nat):aJ (w.drewN n) base g D fx s vT vF:=
 ⟨h.1,h.2.1,h.2.2.1,h.2.2.2.1,Kd.bU h.2.2.2.2.1 n,Kd.bU h.2.2.2.2.2.1 n,h.2.2.2.2.2.2.1,h.2.2.2.2.2.2.2⟩
theorem aI{w:World}{base g:Nat}{D:Nat->Prop}{fx:List Value}{s:Sp.St}{vT vF:Value}(h:aJ w base g D fx s vT vF)(o:Obj):aJ (w.alloc o) base g D fx s vT vF:=
 ⟨bh h.1 o,h.2.1,h.2.2.1,h.2.2.2.1,Kd.aZ h.2.2.2.2.1 o,Kd.aZ h.2.2.2.2.2.1 o,h.2.2.2.2.2.2.1,fun k hk=>by have:=h.2.2.2.2.2.2.2 k hk;simp;omega⟩
theorem fC{w:World}{base g:Nat}{D:Nat->Prop}{fx:List Value}{s:Sp.St}{vT vF:Value}(h:aJ w base g D fx s vT vF)(hp:0<s.F.length):
 ∃gf cap,vF= .slice (some ⟨gf,0,none⟩) s.F.length cap/\gf≠g/\base<=gf/\ ¬D gf:=by
 obtain⟨_,_,_,_,hT,hF,o9,_⟩:=h;obtain⟨gf,cap,rfl,hb,bI,-⟩:=Kd.qz hF hp;exact⟨gf,cap,rfl,(hF.1 gf (by simp[Value.ownBlock])).1,hb,o9 gf (by simp[Value.ownBlock])⟩
theorem Un:(prog.info? 113).map (fun i=>(i.zero,i.size,i.bytes))=some (some (.agg #[.int .i64 0,.slice none 0 0,.slice none 0 0,.int .i64 0,.bool false]),5,72):=by kernel_rfl
theorem jT(w:World)(base g:Nat)(D:Nat->Prop)(fx:List Value)(s:Sp.St)(vT vF:Value)(h:aJ w base g D fx s vT vF)(hI:Sp.cq s)(gf cap:Nat)(wJ:vF= .slice (some ⟨gf,0,none⟩) s.F.length cap):
 Calls prog 144 #[.pointer (some ⟨g,0,none⟩)] w fun e w'=>e= .returned (.pointer (some ⟨gf,(s.F.length-1)*5,none⟩))/\ ∃n,w'=w.drewN n:=by
 obtain⟨i1,i2,i3,-⟩:=hI;obtain⟨j,hj⟩: ∃j,s.F.length=j+1:=⟨s.F.length-1,by omega⟩;have c0:w.cell? ⟨g,12,none⟩=some (.slice (some ⟨gf,0,none⟩) (j+1) cap):=by rw[<-hj,<-wJ];exact(aa h.1 12).trans (dN h.2.1 _ _ _)
 have hj0:(0:Int)<=(j:Int):=by omega
 have hj1:(j:Int)<(j:Int)+1:=by omega
 have hj2:(j:Int)<((j+1:Nat):Int):=by omega
 have e:s.F.length-1=j:=by omega
 rw[e];have hw0:wrap64 (j:Int)=(j:Int):=Tx.xR (by omega) (by omega);clear wJ h hj e i1 i2 i3
 go_enter func144,ntmps144
 go_wp2_with fail
 go_quiet (fail)
 go_wp2_with fail
 go_ret;exact⟨rfl,_,rfl⟩
structure Mv(g:Nat)(w w':World)(vT vF dI eG:Value):Prop where
 os:w'.os=w.os
 tape:w'.tape=w.tape
 output:w'.output=w.output
 size:w.heap.size<=w'.heap.size
 block: ∀k,k<w.heap.size->k≠g->some k≠vT.ownBlock->some k≠vF.ownBlock->w'.heap[k]? =w.heap[k]?
 BG: ∀k,dI.ownBlock=some k->vT.ownBlock=some k\/w.heap.size<=k
 Ax: ∀k,eG.ownBlock=some k->vF.ownBlock=some k\/w.heap.size<=k
theorem Mv.refl(g:Nat)(w:World)(vT vF:Value):Mv g w w vT vF vT vF:=⟨rfl,rfl,rfl,aU _,fun _ _ _ _ _=>rfl,fun _ h=> .inl h,fun _ h=> .inl h⟩
theorem Mv.trans{g:Nat}{a b c:World}{t f t1 f1 t2 f2:Value}(h:Mv g a b t f t1 f1)(k:Mv g b c t1 f1 t2 f2):Mv g a c t f t2 f2:=by
 refine⟨k.os.trans h.os,k.tape.trans h.tape,k.output.trans h.output,cG h.size k.size,fun i hi hg ht hf=>?_,fun i hi=>?_,fun i hi=>?_⟩
 ·refine(k.block i (jv hi h.size) hg (fun e=>?_) (fun e=>?_)).trans (h.block i hi hg ht hf)
  ·rcases h.BG i e.symm with h1|h1
   ·exact ht h1.symm
   ·omega
  ·rcases h.Ax i e.symm with h1|h1
   ·exact hf h1.symm
   ·omega
 ·rcases k.BG i hi with h1|h1
  ·exact h.BG i h1
  ·exact .inr (cG h.size h1)
 ·rcases k.Ax i hi with h1|h1
  ·exact h.Ax i h1
  ·exact .inr (cG h.size h1)
theorem Mv.drewN{g:Nat}{a b:World}{t f t1 f1:Value}(h:Mv g a b t f t1 f1)(n:Nat):Mv g a (b.drewN n) t f t1 f1:=⟨h.os,h.tape,h.output,h.size,h.block,h.BG,h.Ax⟩
theorem Mv.ou{g:Nat}{a b:World}{t f t1 f1:Value}{n:Nat}(h:Mv g (a.drewN n) b t f t1 f1):Mv g a b t f t1 f1:=⟨h.os,h.tape,h.output,h.size,h.block,h.BG,h.Ax⟩
theorem Mv.CQ{g:Nat}{a b:World}{t f t1 f1 t2:Value}(h:Mv g a b t f t1 f1)(e:t2.ownBlock=t1.ownBlock):Mv g a b t f t2 f1:=⟨h.os,h.tape,h.output,h.size,h.block,fun k hk=>h.BG k (e▸hk),h.Ax⟩
theorem Mv.set{g:Nat}{a b:World}{t f t1 f1:Value}(h:Mv g a b t f t1 f1)(j:Nat)(v:Value):Mv g a (b.setCell ⟨g,j,none⟩ v) t f t1 f1:=
 ⟨h.os,h.tape,h.output,by simp only[World.setCell];simpa using h.size,fun k hk hg ht hf=>(dX b ⟨g,j,none⟩ v k hg).trans (h.block k hk hg ht hf),h.BG,h.Ax⟩
theorem Mv.grown{g:Nat}{a b c:World}{t f t1 f1 t2:Value}(h:Mv g a b t f t1 f1)(hg:b.grownBy c t1.ownBlock)(hat:t2.ownBlock=t1.ownBlock\/ ∃k,t2.ownBlock=some k/\b.heap.size<=k):Mv g a c t f t2 f1:=by
 refine h.trans ⟨hg.os,hg.tape,hg.output,hg.size,fun k hk _ ht _=>hg.block k hk ht,fun k hk=>?_,fun k hk=> .inl hk⟩;rcases hat with e|⟨b,e,hb⟩
 ·exact .inl (by rw[<-e];exact hk)
 ·rw[e]at hk
  injection hk with hk;exact .inr (by omega)
theorem Mv.XN{g:Nat}{a b:World}{t f t1 f1:Value}{D:Nat->Prop}(h:Mv g a b t f t1 f1)(hg: ¬D g)(ht: ∀k,t.ownBlock=some k-> ¬D k)(hf: ∀k,f.ownBlock=some k-> ¬D k)(hD: ∀k,D k->k<a.heap.size):Td D a b:=
 ⟨h.os,h.tape,h.output,h.size,fun k hk=>h.block k (hD k hk) (fun e=>hg (e▸hk)) (fun e=>ht k e.symm hk) (fun e=>hf k e.symm hk)⟩
theorem Mv.Kn{g gf:Nat}{a b:World}{t f t1 f1:Value}(h:Mv g a b t f t1 f1)(e:f.ownBlock=some gf)(j:Nat)(v:Value):Mv g a (b.setCell ⟨gf,j,none⟩ v) t f t1 f1:=
 ⟨h.os,h.tape,h.output,by simp only[World.setCell];simpa using h.size,fun k hk hg ht hf=>(dX b ⟨gf,j,none⟩ v k (fun q=>hf (by rw[e,<-show k=gf from q]))).trans (h.block k hk hg ht hf),h.BG,h.Ax⟩
def bN(g base:Nat)(D:Nat->Prop)(fx:List Value)(w:World)(vT vF:Value)(r:Value)(s':Sp.St)(e:Ending)(w':World):Prop:=
 e= .returned r/\ ∃dI eG,Mv g w w' vT vF dI eG/\aJ w' base g D fx s' dI eG
theorem ov{w1:World}{base g:Nat}{D:Nat->Prop}{fx:List Value}{x0 vF v1:Value}{s:Sp.St}{l:List Int}(hg:w1.heap[g]? =some (.cells (ee fx x0 vF s.bad) 111 (0,0)))(iR:fx.length=11)(hb:base<=g)(sR: ¬D g)
 (hT:bl w1 base (fun k=>k≠g/\some k≠vF.ownBlock/\ ¬D k) v1 l) (hF:iG w1 base (fun k=>k≠g/\some k≠v1.ownBlock) vF s.F) (o9: ∀k,vF.ownBlock=some k-> ¬D k) (hD: ∀k,D k->k<w1.heap.size):
 aJ (w1.setCell ⟨g,11,none⟩ v1) base g D fx ⟨l,s.F,s.bad⟩ v1 vF:=by
 refine⟨?_,iR,hb,sR,Kd.dr hT (fun k hk=>hk.1) _,Kd.dr hF (fun k hk=>hk.1) _,o9,fun k hk=>?_⟩
 ·have:=bC hg 11 v1
  rwa[Kl iR]at this
 ·have:=hD k hk
  simp only[World.setCell];simpa using this
theorem Nc{w:World}{base g gf cap j n:Nat}{D:Nat->Prop}{fx:List Value}{vT:Value}{s:Sp.St}(h:aJ w base g D fx s vT (.slice (some ⟨gf,0,none⟩) n cap))(hn:n=j+1)(hl:s.F.length=n):aJ (w.setCell ⟨gf,j*5+4,none⟩ (.bool true)) base g D fx ⟨s.T,s.F.set j ⟨(bB s.F (j:Int)).f0,(bB s.F (j:Int)).f1,(bB s.F (j:Int)).f2,true⟩,s.bad⟩ vT (.slice (some ⟨gf,0,none⟩) n cap):=by
 obtain⟨hg,iR,hb,sR,hT,hF,o9,hD⟩:=h;have hne:gf≠g:=(hF.1 gf (by simp[Value.ownBlock])).1;obtain⟨cs,lJ,qc,hcc,oJ⟩:=Kd.kR hF IU (j:Int) (by omega) (by omega);obtain⟨v1,v2,hcs,hr1,hr2⟩:=kV qc;subst hcs;have hs:=Kd.IJ hF (j:Int) (by omega) (by omega) (c:=_) (seg:= [.bool true]) (j:=4) lJ hcc (show 4+1<=5 from by omega) (x':=⟨(bB s.F (j:Int)).f0,(bB s.F (j:Int)).f1,(bB s.F (j:Int)).f2,true⟩) (kK:=fun k=>(k≠g/\some k≠vT.ownBlock)/\k≠gf) (xC _ _ _ ⟨(bB s.F (j:Int)).f0,(bB s.F (j:Int)).f1,(bB s.F (j:Int)).f2,true⟩ hr1 hr2) (fun k hk=>hk);rw[dF]at hs;refine⟨bR hg (Ne.symm hne) _,iR,hb,sR,?_,?_,o9,fun k hk=>?_⟩
 ·exact Kd.dr hT (fun k hk e=>hk.2.1 (by rw[show k=gf from e];simp[Value.ownBlock])) _
 ·exact hs.1
 ·have:=hD k hk
  simp only[World.setCell];simpa using this
theorem eC{w:World}{base g:Nat}{D:Nat->Prop}{fx:List Value}{vT vF:Value}{s:Sp.St}(h:aJ w base g D fx s vT vF)(b:Bool):aJ (w.setCell ⟨g,13,none⟩ (.bool b)) base g D fx ⟨s.T,s.F,b⟩ vT vF:=by
 obtain⟨hg,iR,hb,sR,hT,hF,o9,hD⟩:=h;refine⟨?_,iR,hb,sR,Kd.dr hT (fun k hk=>hk.1) _,Kd.dr hF (fun k hk=>hk.1) _,o9,fun k hk=>?_⟩
 ·have:=bC hg 13 (.bool b)
  rwa[Km iR]at this
 ·have:=hD k hk
  simp only[World.setCell];simpa using this
theorem EG(w:World)(base g:Nat)(D:Nat->Prop)(fx:List Value)(s:Sp.St)(vT vF:Value)(h:aJ w base g D fx s vT vF)(A:Option Addr)(cA:Nat)(l:List Int)(hC:bf w A l)(hl:s.T.length+l.length<=1000000):Calls prog 146 #[.pointer (some ⟨g,0,none⟩),.slice A l.length cA] w (bN g base D fx w vT vF (.tuple #[]) (s.push l)):=by
 obtain⟨hg0,iR,hb,sR,hT,hF,o9,hD⟩:=h;have c11:=(aa hg0 11).trans (kY iR _ _ _);have f11:=ah hg0 11;have nC:=aj hg0;have yO:=Kd.gY hF;obtain⟨P,kT,rfl⟩:=Kd.ai hT;have Qb:=hd (show∀k,w.heap.size<=k->k≠g/\some k≠vF.ownBlock/\ ¬D k from fun k hk=>⟨by omega,fun e=>by have:=yO k e.symm;omega,fun e=>by have:=hD k e;omega⟩);have cn:=hd (show Below base w w from⟨rfl,rfl,rfl,aU _,fun _ _=>rfl⟩);have pY:=hd (show base<=w.heap.size by omega);have HG:=hd hg0;have HT:=hd hT;have HF:=hd hF;have HC:=hd hC;have HL:=hd hl;have iL:=hd iR;have Uo:=hd o9;have HD:=hd hD;clear hg0 hT hF hC hl iR o9 hD yO
 go_enter func146,ntmps146
 go_wp2_with (first|(at_builtin;(refine Kd.fF (Kd.int .i64) (w0:=w) base rfl (.tmp 8) (.tmp 9) 23 3 (.int .i64 0) 8 rfl underlying23 cQ rfl Nat.zero_lt_one (dG 7) (.slice P s.T.length kT) s.T l A l.length cA (fun k=>k≠g/\some k≠vF.ownBlock/\ ¬D k) (fun _=>False) rfl rfl ?ho ?hr (fun _ _ h=>h) (fun _ h=>h.elim) ?hfr ?hb ?hsz ?hl2 ?_);(case ho=>exact HT.o);(case hr=>exact HC.o);(case hfr=>exact Qb.o);(case hb=>exact cn.o);(case hsz=>exact pY.o);(case hl2=>have:=HL.o;omega);intro v1 w1 hR hB hG hat;obtain⟨P1,k1,rfl⟩:=Kd.ai hR;simp only[List.length_append]at hR hat;have hg1:w1.heap[g]? =some (.cells (ee fx (.slice P s.T.length kT) vF s.bad) 111 (0,0)):=bD HG.o hG (Kd.uX HT.o (fun k hk=>hk.1));have d11:=(aa hg1 11).trans (kY iL.o _ _ _);have k11:=ah hg1 11;have L4:=hd (Kd.mm (ok:=fun k=>k≠g) (Kd.bQ HF.o (fun k hk=>⟨hk.1,hk.2⟩)) hG hat);have iK:=hd hR;have BD:=hd hg1;have Wm:=hd hG;have Ac:=hd hat;clear hR hB hG hat hg1))
 go_end0
 refine⟨rfl,_,_,((Mv.refl g w _ _).grown Wm.o Ac.o).set 11 _,?_⟩;have hs:=Wm.o.size;exact ov (s:=s) BD.o iL.o hb sR iK.o L4.o Uo.o (fun k hk=>by have:=HD.o k hk;omega)
theorem EH(w:World)(base g:Nat)(D:Nat->Prop)(fx:List Value)(s:Sp.St)(vT vF:Value)(h:aJ w base g D fx s vT vF)(hI:Sp.cq s)(hle:(s.T.length:Int)<=s.top.f2):Calls prog 96 #[.pointer (some ⟨g,0,none⟩)] w (bN g base D fx w vT vF (.int .i64 0) ⟨s.T,s.F,s.bad|| !s.top.f3⟩):=by
 obtain⟨gf,cap,wJ,sS,xd,xe⟩:=fC h hI.1;have nD:=hd (jT w base g D fx s vT vF h hI gf cap wJ);subst wJ;obtain⟨i1,i2,i3,i4,i5⟩:=hI;obtain⟨j,hj⟩: ∃j,s.F.length=j+1:=⟨s.F.length-1,by omega⟩;obtain⟨t0,t1⟩:=i4 (j:Int) (by omega) (by omega);have ng:s.top=bB s.F (j:Int):=by unfold Sp.St.top;rw[hj];congr 1;omega
 have HS:=hd h;obtain⟨hg0,iR,hb,sR,hT,hF,o9,hD⟩:=h;obtain⟨cs,lJ,qc,hcc,oJ⟩:=Kd.kR hF IU (j:Int) (by omega) (by omega);obtain⟨v1,v2,hcs,hr1,hr2⟩:=kV qc;subst hcs;rw[dF]at hcc oJ hr1 hr2;obtain⟨f,hf⟩:=ex (bB s.F (j:Int));rw[show s.F.getD j IU=f from hf.symm]at hcc hr1 hr2;rw[<-hf]at ng t0 t1;have m3:w.cell? ⟨gf,j*5+3,none⟩=some (.int .i64 f.f2):=hcc 3 _ rfl;have m4:w.cell? ⟨gf,j*5+4,none⟩=some (.bool f.f3):=hcc 4 _ rfl;have n4:w.frozen? ⟨gf,j*5+4,none⟩=false:=oJ 4;have ej:s.F.length-1=j:=by omega
 rw[ej]at nD;have c11:=(aa hg0 11).trans (kY iR _ _ _);have c13:=(aa hg0 13).trans (dy iR _ _ _);have f11:=ah hg0 11;have f13:=ah hg0 13;obtain⟨P,kT,rfl⟩:=Kd.ai hT;rw[ng]at hle⊢;have hle1:decide ((s.T.length:Int)<=f.f2)=true:=iz hle;clear ng hf;clear hg0 hT hF o9 hD hcc oJ lJ qc hr1 hr2 iR i4 i5;cases hbd:s.bad with
 |true=>
  rw[hbd]at c13
  go_enter func96,ntmps96
  go_wp2_with (first|((go_at_call 144);(with_reducible refine nD.o.mono ?_);rintro e w'⟨rfl,nt,rfl⟩))
  go_quiet (fail)
  go_wp2_with fail
  go_ret;refine⟨rfl,_,_,(((Mv.refl g w _ _).drewN _)).set 13 _,?_⟩;exact eC (bT HS.o _) true
 |false=>
  rw[hbd]at c13
  go_enter func96,ntmps96
  go_wp2_with (first|((go_at_call 144);(with_reducible refine nD.o.mono ?_);rintro e w'⟨rfl,nt,rfl⟩))
  go_quiet (fail)
  go_wp2_with fail
  go_ret;refine⟨rfl,_,_,(((Mv.refl g w _ _).drewN _)).set 13 _,?_⟩;rw[Bool.false_or];exact eC (bT HS.o _) _
theorem EI(w:World)(base g:Nat)(D:Nat->Prop)(fx:List Value)(s:Sp.St)(vT vF:Value)(h:aJ w base g D fx s vT vF)(hI:Sp.cq s)(hle: ¬(s.T.length:Int)<=s.top.f2):Calls prog 96 #[.pointer (some ⟨g,0,none⟩)] w (bN g base D fx w vT vF (.int .i64 (rd s.T ((s.T.length:Int)-1))) ⟨s.T.take (s.T.length-1),s.F,s.bad⟩):=by
 obtain⟨gf,cap,wJ,sS,xd,xe⟩:=fC h hI.1;have nD:=hd (jT w base g D fx s vT vF h hI gf cap wJ);subst wJ;obtain⟨i1,i2,i3,i4,i5⟩:=hI;obtain⟨j,hj⟩: ∃j,s.F.length=j+1:=⟨s.F.length-1,by omega⟩;obtain⟨t0,t1⟩:=i4 (j:Int) (by omega) (by omega);have ng:s.top=bB s.F (j:Int):=by unfold Sp.St.top;rw[hj];congr 1;omega
 have HS:=hd h;obtain⟨hg0,iR,hb,sR,hT,hF,o9,hD⟩:=h;obtain⟨cs,lJ,qc,hcc,oJ⟩:=Kd.kR hF IU (j:Int) (by omega) (by omega);obtain⟨v1,v2,hcs,hr1,hr2⟩:=kV qc;subst hcs;rw[dF]at hcc oJ hr1 hr2;obtain⟨f,hf⟩:=ex (bB s.F (j:Int));rw[show s.F.getD j IU=f from hf.symm]at hcc hr1 hr2;rw[<-hf]at ng t0 t1;have m3:w.cell? ⟨gf,j*5+3,none⟩=some (.int .i64 f.f2):=hcc 3 _ rfl;have m4:w.cell? ⟨gf,j*5+4,none⟩=some (.bool f.f3):=hcc 4 _ rfl;have n4:w.frozen? ⟨gf,j*5+4,none⟩=false:=oJ 4;have ej:s.F.length-1=j:=by omega
 rw[ej]at nD;have c11:=(aa hg0 11).trans (kY iR _ _ _);have c13:=(aa hg0 13).trans (dy iR _ _ _);have f11:=ah hg0 11;have f13:=ah hg0 13;rw[ng]at hle;have XO:0<s.T.length:=by omega
 obtain⟨gT,kT,rfl,-,-,-⟩:=Kd.qz hT XO;obtain⟨m,hm⟩: ∃m,s.T.length=m+1:=⟨s.T.length-1,by omega⟩;have hel:=(Kd.Gz (0:Int) hT (m:Int) (by omega) (by omega)).1;rw[dF]at hel;have Uq:w.cell? ⟨gT,m,none⟩=some (.int .i64 (rd s.T (m:Int))):=hel;have ev:(s.T.length:Int)-1=(m:Int):=by omega
 rw[ev];obtain⟨r,hr⟩:=ex (rd s.T (m:Int));rw[<-hr]at Uq⊢;have hle1:decide ((m:Int)+1<=f.f2)=false:=jP (by omega);have hle2: ¬((m:Int)+1<=f.f2):=by omega
 rw[hm]at c11;have hm0:(0:Int)<=(m:Int):=by omega
 have Gk:(m:Int)<(m:Int)+1:=by omega
 have hcap:(m:Int)<=(kT:Int):=by have:=(Kd.bA hT).2.1;omega
 have HT:=hd hT;have HF:=hd hF;have HG:=hd hg0;have iL:=hd iR;have Uo:=hd o9;have HD:=hd hD;have gZ:=hd hm;have hw0:wrap64 (m:Int)=(m:Int):=Tx.xR (by omega) (by omega);have hwi:IntKind.i64.wrap (m:Int)=(m:Int):=(Aw _).trans hw0;clear ng hf hel hr hm ev hle XO;clear hg0 hT hF o9 hD hcc oJ lJ qc hr1 hr2 iR i4 i5
 go_enter func96,ntmps96
 go_wp2_with (first|((go_at_call 144);(with_reducible refine nD.o.mono ?_);rintro e w'⟨rfl,nt,rfl⟩))
 go_quiet (fail)
 go_wp2_with fail
 go_quiet (fail)
 go_wp2_with fail
 refine st 15 (fun w'=>w'.cell? ⟨g,11,none⟩=some (.slice (some ⟨gT,0,none⟩) (m+1) kT)) [14] c11 (fun ag=>?_);refine cZ 0 43 1 44 2 45 ?_;refine pu 3 46 ?_;refine tk 4 47 ag ?_;refine cZ 5 48 6 49 7 50 ?_;refine tk 8 51 ag ?_;refine cZ 9 52 10 53 11 54 ?_;refine pu2 12 55 13 56 ?_;refine la 14 ?_;refine dn ?_
 go_wp2_with fail
 go_ret;refine⟨rfl,.slice (some ⟨gT,0,none⟩) m kT,_,(((Mv.refl g w (.slice (some ⟨gT,0,none⟩) s.T.length kT) _).drewN _).set 11 (.slice (some ⟨gT,0,none⟩) m kT)).CQ rfl,?_⟩;clear hw0 hwi;have Jn:=gZ.o;have e:s.T.length-1=m:=by omega
 rw[e];exact ov (s:=s) (by exact HG.o) iL.o hb sR (Kd.bU (Kd.nR (m:=m) HT.o (by omega)) _) (Kd.bQ (Kd.bU HF.o _) (fun k hk=>⟨hk.1,hk.2⟩)) Uo.o HD.o
theorem pg(w:World)(base g:Nat)(D:Nat->Prop)(fx:List Value)(s:Sp.St)(vT vF:Value)(h:aJ w base g D fx s vT vF)(hI:Sp.cq s):Calls prog 96 #[.pointer (some ⟨g,0,none⟩)] w (bN g base D fx w vT vF (.int .i64 s.any.1) s.any.2):=by
 unfold Sp.St.any;by_cases hle:(s.T.length:Int)<=s.top.f2
 ·rw[if_pos hle]
  exact EH w base g D fx s vT vF h hI hle
 ·rw[if_neg hle]
  exact EI w base g D fx s vT vF h hI hle
theorem kZ(w:World)(base g:Nat)(D:Nat->Prop)(fx:List Value)(s:Sp.St)(vT vF:Value)(h:aJ w base g D fx s vT vF)(hI:Sp.cq s):Calls prog 90 #[.pointer (some ⟨g,0,none⟩)] w (bN g base D fx w vT vF (.tuple #[]) s.die):=by
 obtain⟨gf,cap,wJ,sS,xd,xe⟩:=fC h hI.1;have nD:=hd (jT w base g D fx s vT vF h hI gf cap wJ);subst wJ;obtain⟨i1,i2,i3,i4,i5⟩:=hI;obtain⟨j,hj⟩: ∃j,s.F.length=j+1:=⟨s.F.length-1,by omega⟩;obtain⟨t0,t1⟩:=i4 (j:Int) (by omega) (by omega);have ng:s.top=bB s.F (j:Int):=by unfold Sp.St.top;rw[hj];congr 1;omega
 have HS:=hd h;obtain⟨hg0,iR,hb,sR,hT,hF,o9,hD⟩:=h;obtain⟨cs,lJ,qc,hcc,oJ⟩:=Kd.kR hF IU (j:Int) (by omega) (by omega);obtain⟨v1,v2,hcs,hr1,hr2⟩:=kV qc;subst hcs;rw[dF]at hcc oJ hr1 hr2;obtain⟨f,hf⟩:=ex (bB s.F (j:Int));rw[show s.F.getD j IU=f from hf.symm]at hcc hr1 hr2;rw[<-hf]at ng t0 t1;have m3:w.cell? ⟨gf,j*5+3,none⟩=some (.int .i64 f.f2):=hcc 3 _ rfl;have m4:w.cell? ⟨gf,j*5+4,none⟩=some (.bool f.f3):=hcc 4 _ rfl;have n4:w.frozen? ⟨gf,j*5+4,none⟩=false:=oJ 4;have ej:s.F.length-1=j:=by omega
 rw[ej]at nD;have c11:=(aa hg0 11).trans (kY iR _ _ _);have c13:=(aa hg0 13).trans (dy iR _ _ _);have f11:=ah hg0 11;have f13:=ah hg0 13;have hD1:s.die=⟨s.T.take f.f2.toNat,s.F.set j ⟨f.f0,f.f1,f.f2,true⟩,s.bad⟩:=by unfold Sp.St.die;rw[ng,ej]
 rw[hD1];obtain⟨P,kT,rfl⟩:=Kd.ai hT;have hcap:f.f2<=(kT:Int):=by have:=(Kd.bA hT).2.1;omega
 have hh:f.f2.toNat<=s.T.length:=by omega
 have HT:=hd hT;have HF:=hd hF;have HG:=hd hg0;have iL:=hd iR;have Uo:=hd o9;have HD:=hd hD;have HJ:=hd hj;have G4:=hd lJ;have yN:=hd hcc;have iK:=hd hr1;have ia:=hd hr2;have HZ:=hd hf;clear ng hf hD1;clear hg0 hT hF o9 hD hcc oJ lJ qc hr1 hr2 iR i4 i5
 go_enter func90,ntmps90
 go_wp2_with (first|((go_at_call 144);(with_reducible refine nD.o.mono ?_);rintro e w'⟨rfl,nt,rfl⟩))
 refine st 13 (fun w'=>w'.cell? ⟨g,11,none⟩=some (.slice P s.T.length kT)/\w'.cell? ⟨gf,j*5+3,none⟩=some (.int .i64 f.f2)) [12] ⟨c11,m3⟩ (fun ag=>?_);refine cZ 0 5 1 6 2 7 ?_;refine pu 3 8 ?_;refine tk 4 9 ag ?_;refine cZ 5 10 6 11 7 12 ?_;refine tk 8 13 ag ?_;refine cZ 9 14 10 15 11 16 ?_;refine la 12 ?_;refine dn ?_
 go_wp2_with fail
 go_end0
 refine⟨rfl,.slice P f.f2.toNat kT,_,((((Mv.refl g w (.slice P s.T.length kT) (.slice (some ⟨gf,0,none⟩) s.F.length cap)).drewN _).set 11 (.slice P f.f2.toNat kT)).Kn (gf:=gf) rfl (j*5+4) (.bool true)).CQ (by cases P<;>rfl),?_⟩;have h2:=fun n=>ov (w1:=w.drewN n) (v1:= .slice P f.f2.toNat kT) (s:=s) (by exact HG.o) iL.o hb sR (Kd.nR (m:=f.f2.toNat) (Kd.bU HT.o n) hh|>fun q=>by cases P<;>exact q) (Kd.bQ (Kd.bU HF.o n) (fun k hk=>⟨hk.1,by cases P<;>exact hk.2⟩)) Uo.o HD.o
 have hq:=HJ.o;have hz:=HZ.o;subst hz;exact Nc (h2 _) (j:=j) (by omega) rfl
end Go.Proofs.YthehihjcpiadgaaGreat
namespace Go.Proofs.YthehihjcpiadgaaGreat
open Go.RowKit
theorem Nf(a:Array Value)(n:Nat)(h:a.size=n):((List.range n).map (fun i=>a.getD i undef)).toArray=a:=by
 subst h;apply Array.ext
 ·simp
 ·intro i h1 h2
  simp[h2]
theorem BH{p:Nat->Prop}(h: ∃d,p d): ∃d,p d/\ ∀d',p d'->d<=d':=by
 obtain⟨d,hd⟩:=h;induction d using Nat.strongRecOn with
 |_ d ih=>
  by_cases hm: ∃d',d'<d/\p d'
  ·obtain⟨d',h1,h2⟩:=hm;exact ih d' h1 h2
  ·exact⟨d,hd,fun d' h2=>Nat.not_lt.1 (fun h1=>hm ⟨d',h1,h2⟩)⟩
open Classical in
noncomputable def leastOf (p:Nat->Prop):Nat:=if h: ∃d,p d then(BH h).choose else 0
theorem leastOf_spec{p:Nat->Prop}{d:Nat}(h:p d):p (leastOf p)/\leastOf p<=d:=by
 have hx: ∃d,p d:=⟨d,h⟩;unfold leastOf;rw[dif_pos hx];have:=(BH hx).choose_spec;exact⟨this.1,this.2 d h⟩
theorem jk{P:Program}{Q:Exit->Act->World->Prop}{c:Code}{a:Act}{w:World}(n:Nat)(I:Nat->(Nat->Value)->World->Prop)(d:Nat)(h0:a.tmps.size=n)(hd:a.defers= [])(hI:I d (fun i=>a.tmps.getD i undef) w)
 (round: ∀d u W l,I d u W->(List.range n).map u=l->c.wp P (Exit.then (fun a' w'=>a'.tmps.size=n/\a'.defers= []/\ ∃d',d'<d/\I d' (fun i=>a'.tmps.getD i undef) w') Q) {tmps:=l.toArray,defers:= []} W):(Code.loop c).wp P Q a w:=by
 refine wp_loop (fun a w=>a.tmps.size=n/\a.defers= []/\ ∃d,I d (fun i=>a.tmps.getD i undef) w) (fun a w=>leastOf (fun d=>I d (fun i=>a.tmps.getD i undef) w)) ⟨h0,hd,d,hI⟩ ?_;rintro⟨tm,df⟩ W ⟨h1,h2,d,h3⟩;dsimp only at h1 h2 h3;subst h2;have hl:=leastOf_spec (p:=fun d=>I d (fun i=>tm.getD i undef) W) h3;have:=round _ (fun i=>tm.getD i undef) W _ hl.1 rfl;rw[Nf tm n h1]at this;refine Code.wp_mono ?_ this;intro e a' w' h;cases e with
 |normal=>
  obtain⟨q1,q2,d',q3,q4⟩:=h;exact⟨⟨q1,q2,d',q4⟩,Nat.lt_of_le_of_lt (leastOf_spec (p:=fun d=>I d (fun i=>a'.tmps.getD i undef) w') q4).2 q3⟩
 |_=>exact h
theorem uh(k:Nat)(h:k<=4611686018427387904):wrap64 ((k:Int)+1)=((k+1:Nat):Int):=by unfold wrap64;omega
end Go.Proofs.YthehihjcpiadgaaGreat
