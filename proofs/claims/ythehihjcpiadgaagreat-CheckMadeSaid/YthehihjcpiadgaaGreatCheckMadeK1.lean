import Derived.Test.YthehihjcpiadgaaGreatCheckMadeB4
set_option maxRecDepth 100000
set_option maxHeartbeats 0
set_option linter.all false
open Go.Proofs.Tryz
namespace Go.Proofs.YthehihjcpiadgaaGreat
open Go.RowKit Go.Proofs.Wz.PrintWords Go.Proofs.Wz.bM
structure jd(O:Nat->Prop)(w w':World):Prop where
 os:w'.os=w.os
 tape:w'.tape=w.tape
 output:w'.output=w.output
 size:w.heap.size<=w'.heap.size
 block: ∀k,k<w.heap.size-> ¬O k->w'.heap[k]? =w.heap[k]?
theorem jd.refl(O:Nat->Prop)(w:World):jd O w w:=⟨rfl,rfl,rfl,aU _,fun _ _ _=>rfl⟩
theorem jd.then{O O':Nat->Prop}{a b c:World}(h:jd O a b)(k:jd O' b c)(hO: ∀k,O' k->O k\/a.heap.size<=k):jd O a c:=
 ⟨k.os.trans h.os,k.tape.trans h.tape,k.output.trans h.output,cG h.size k.size,fun i hi hn=>(k.block i (jv hi h.size) (fun e=>(hO i e).elim hn (fun h=>by omega))).trans (h.block i hi hn)⟩
theorem jd.below{O:Nat->Prop}{a b c:World}(h:jd O a b)(hb:Below b.heap.size b c):jd O a c:=
 ⟨hb.os.trans h.os,hb.tape.trans h.tape,hb.output.trans h.output,cG h.size hb.size,fun i hi hn=>(hb.block i (jv hi h.size)).trans (h.block i hi hn)⟩
theorem jd.set{O:Nat->Prop}{a b:World}(h:jd O a b){g j:Nat}(hg:O g)(v:Value):jd O a (b.setCell ⟨g,j,none⟩ v):=
 ⟨h.os,h.tape,h.output,by simp only[World.setCell];simpa using h.size,fun k hk hn=>(dX b ⟨g,j,none⟩ v k (fun e=>hn (by rw[show k=g from e];exact hg))).trans (h.block k hk hn)⟩
theorem jd.grown{O:Nat->Prop}{a b c:World}(h:jd O a b){row:Option Nat}(hg:b.grownBy c row)(hr: ∀k,row=some k->O k\/a.heap.size<=k):jd O a c:=
 ⟨hg.os.trans h.os,hg.tape.trans h.tape,hg.output.trans h.output,cG h.size hg.size,fun k hk hn=>(hg.block k (jv hk h.size) (fun e=>(hr k e.symm).elim hn (fun h=>by omega))).trans (h.block k hk hn)⟩
def Fz(w:World)(O:Nat->Prop)(R:World->Prop):Prop:= ∀w',jd O w w'->R w'
theorem Fz.then{w w':World}{O O':Nat->Prop}{R:World->Prop}(h:Fz w O R)(hw:jd O w w')(hO: ∀k,O' k->O k\/w.heap.size<=k):Fz w' O' R:=fun W hW=>h W (hw.then hW hO)
theorem Fz.blk{w:World}{O:Nat->Prop}{k:Nat}{o:Obj}(h:w.heap[k]? =some o)(hO: ¬O k):Fz w O (fun W=>W.heap[k]? =some o):=fun W hW=>(hW.block k (aj h) hO).trans h
structure fT where
 s:List Int
 code:List aW
 left:Int
 pos:Int
structure GP where
 g:Nat
 tb:Nat
 fx:List Value
 vT:Value
 vL:Value
 tape:List Int
 bad:Nat->Prop
def jJ(p:GP)(vS vC:Value):Nat->Prop:=fun k=>k=p.g\/k=p.tb\/some k=vS.ownBlock\/some k=vC.ownBlock
def en(p:GP)(vS vC:Value)(left:Int):Array Value:=(.pointer (some ⟨p.tb,0,none⟩)::(p.fx++ [vS,p.vL,vC,.int .i64 left,.bool true])).toArray
theorem jU(p:GP)(vS vC:Value)(n:Int):(en p vS vC n)[0]? =some (.pointer (some ⟨p.tb,0,none⟩)):=by simp[en]
theorem jV{p:GP}(h:p.fx.length=11)(vS vC:Value)(n:Int):(en p vS vC n)[12]? =some vS:=by simp[en,List.getElem?_append,h]
theorem rz{p:GP}(h:p.fx.length=11)(vS vC:Value)(n:Int):(en p vS vC n)[13]? =some p.vL:=by simp[en,List.getElem?_append,h]
theorem Sb{p:GP}(h:p.fx.length=11)(vS vC:Value)(n:Int):(en p vS vC n)[14]? =some vC:=by simp[en,List.getElem?_append,h]
theorem ac2{p:GP}(h:p.fx.length=11)(vS vC:Value)(n:Int):(en p vS vC n)[15]? =some (.int .i64 n):=by simp[en,List.getElem?_append,h]
theorem ac3{p:GP}(h:p.fx.length=11)(vS vC:Value)(n:Int):(en p vS vC n)[16]? =some (.bool true):=by simp[en,List.getElem?_append,h]
theorem YG{p:GP}(h:p.fx.length=11)(vS vC:Value)(n:Int)(j:Nat)(hj:j<11):(en p vS vC n)[j+1]? =p.fx[j]? :=by simp[en,List.getElem?_append,h,hj]
theorem JE{p:GP}(h:p.fx.length=11)(vS vC u:Value)(n:Int):(en p vS vC n).setIfInBounds 12 u=en p u vC n:=by simp[en,List.set_append,h]
theorem Sc{p:GP}(h:p.fx.length=11)(vS vC u:Value)(n:Int):(en p vS vC n).setIfInBounds 13 u=en {p with vL:=u} vS vC n:=by simp[en,List.set_append,h]
theorem Sd{p:GP}(h:p.fx.length=11)(vS vC u:Value)(n:Int):(en p vS vC n).setIfInBounds 14 u=en p vS u n:=by simp[en,List.set_append,h]
theorem Sg{p:GP}(h:p.fx.length=11)(vS vC:Value)(n m:Int):(en p vS vC n).setIfInBounds 15 (.int .i64 m)=en p vS vC m:=by simp[en,List.set_append,h]
abbrev zM(w:World)(ok:Nat->Prop)(v:Value)(xs:List aW):Prop:=bW.R 25 w 0 ok v xs
def aG(R:World->Prop)(w:World)(p:GP)(x:fT)(vS vC:Value):Prop:=
 w.heap[p.g]? =some (.cells (en p vS vC x.left) 91 (0,0))/\p.fx.length=11/\p.g≠p.tb/\
 w.heap[p.tb]? =some (.cells #[p.vT,.int .i64 x.pos] 82 (0,0))/\(0<=x.pos/\ ∀k,p.bad k->k<w.heap.size)/\x.pos<=p.tape.length/\
 bl w 0 (fun k=>(k≠p.g/\k≠p.tb)/\some k≠vC.ownBlock) vS x.s/\zM w (fun k=>((k≠p.g/\k≠p.tb)/\ ¬p.bad k)/\some k≠vS.ownBlock) vC x.code/\Fz w (jJ p vS vC) R
def uJ(R:World->Prop)(p:GP)(r:Value)(f:fT->Prop)(e:Ending)(w':World):Prop:=e= .returned r/\ ∃x vS vC,f x/\aG R w' p x vS vC
section
variable {R R':World->Prop} {w w':World} {p:GP} {x:fT} {vS vC:Value}
theorem aG.get(h:aG R w p x vS vC):R w:=h.2.2.2.2.2.2.2.2 w (jd.refl _ _)
theorem aG.weak(h:aG R w p x vS vC)(hR: ∀W,R W->R' W):aG R' w p x vS vC:=by
 obtain⟨a,b,c,d,e,f,g,i,j⟩:=h;exact⟨a,b,c,d,e,f,g,i,fun W hW=>hR W (j W hW)⟩
theorem aG.and(h:aG R w p x vS vC){P:World->Prop}(hP:Fz w (jJ p vS vC) P):aG (fun W=>R W/\P W) w p x vS vC:=by
 obtain⟨a,b,c,d,e,f,g,i,j⟩:=h;exact⟨a,b,c,d,e,f,g,i,fun W hW=>⟨j W hW,hP W hW⟩⟩
theorem aG.lt(h:aG R w p x vS vC):p.g<w.heap.size/\p.tb<w.heap.size/\(∀k,vS.ownBlock=some k->k<w.heap.size)/\ ∀k,vC.ownBlock=some k->k<w.heap.size:=
 ⟨aj h.1,aj h.2.2.2.1,Kd.gY h.2.2.2.2.2.2.1,Kd.gY h.2.2.2.2.2.2.2.1⟩
theorem aG.iC(h:aG R w p x vS vC){k:Nat}(hk:jJ p vS vC k):k<w.heap.size:=by
 obtain⟨h1,h2,h3,h4⟩:=h.lt;rcases hk with rfl|rfl|hk|hk
 ·exact h1
 ·exact h2
 ·exact h3 k hk.symm
 ·exact h4 k hk.symm
theorem aG.below(h:aG R w p x vS vC)(hb:Below w.heap.size w w'):aG R w' p x vS vC:=by
 obtain⟨a,b,c,d,e,f,g,i,j⟩:=h;exact⟨(hb.block _ (aj a)).trans a,b,c,(hb.block _ (aj d)).trans d,⟨e.1,fun k hk=>jv (e.2 k hk) hb.size⟩,f,Kd.cM g hb,Kd.cM i hb,j.then ((jd.refl _ _).below hb) (fun k hk=> .inl hk)⟩
theorem aG.alloc(h:aG R w p x vS vC)(o:Obj):aG R (w.alloc o) p x vS vC:=h.below (af (ay _ _) o)
theorem aG.drewN(h:aG R w p x vS vC)(n:Nat):aG R (w.drewN n) p x vS vC:=h.below (aq (ay _ _) n)
theorem aG.far(h:aG R w p x vS vC){k:Nat}(hk:w.heap.size<=k): ¬jJ p vS vC k:=fun e=>by have:=h.iC e;omega
theorem aG.box(h:aG R w p x vS vC)(cs:Array Value)(t:TypeId):aG (fun W=>R W/\W.heap[w.heap.size]? =some (.cells cs t (0,0))) (w.alloc (.cells cs t)) p x vS vC:=
 (h.alloc _).and (Fz.blk (dh w _) (h.far (aU _)))
theorem aG.pos(h:aG R w p x vS vC)(n:Int)(h0:0<=n)(h1:n<=p.tape.length):aG R (w.setCell ⟨p.tb,1,none⟩ (.int .i64 n)) p ⟨x.s,x.code,x.left,n⟩ vS vC:=by
 obtain⟨a,b,c,d,e,f,g,i,j⟩:=h;exact⟨bR a (p:=⟨p.tb,1,none⟩) c _,b,c,bC d 1 _,⟨h0,fun k hk=>by have:=e.2 k hk;simp only[World.setCell];simpa using this⟩,h1,Kd.dr g (fun k hk=>hk.1.2) _,Kd.dr i (fun k hk=>hk.1.1.2) _,j.then ((jd.refl _ _).set (.inr (.inl rfl)) _) (fun k hk=> .inl hk)⟩
theorem aG.left(h:aG R w p x vS vC)(n:Int):aG R (w.setCell ⟨p.g,15,none⟩ (.int .i64 n)) p ⟨x.s,x.code,n,x.pos⟩ vS vC:=by
 obtain⟨a,b,c,d,e,f,g,i,j⟩:=h;have a2:=bC a 15 (.int .i64 n);rw[Sg b]at a2;exact⟨a2,b,c,bR d (p:=⟨p.g,15,none⟩) (fun e=>c e.symm) _,⟨e.1,fun k hk=>by have:=e.2 k hk;simp only[World.setCell];simpa using this⟩,f,Kd.dr g (fun k hk=>hk.1.1) _,Kd.dr i (fun k hk=>hk.1.1.1) _,j.then ((jd.refl _ _).set (.inl rfl) _) (fun k hk=> .inl hk)⟩
theorem aG.types{w1:World}{v1:Value}{l:List Int}(h:aG R w p x vS vC)(hG:w.grownBy w1 vS.ownBlock)(hat:v1.ownBlock=vS.ownBlock\/ ∃b,v1.ownBlock=some b/\w.heap.size<=b)(hR:bl w1 0 (fun k=>(k≠p.g/\k≠p.tb)/\some k≠vC.ownBlock) v1 l):
 aG R (w1.setCell ⟨p.g,12,none⟩ v1) p ⟨l,x.code,x.left,x.pos⟩ v1 vC:=by
 have hh:=h.lt;obtain⟨a,b,c,d,e,f,g,i,j⟩:=h;have hg:p.g≠p.tb:=c;have n1:some p.g≠vS.ownBlock:=fun e=>(g.1 p.g e.symm).1.1 rfl
 have n2:some p.tb≠vS.ownBlock:=fun e=>(g.1 p.tb e.symm).1.2 rfl
 have a2:=bC (bD a hG n1) 12 v1;rw[JE b]at a2;refine⟨a2,b,c,bR (bD d hG n2) (p:=⟨p.g,12,none⟩) (fun e=>c e.symm) _,⟨e.1,fun k hk=>by have:=e.2 k hk;have:=hG.size;simp only[World.setCell];simp;omega⟩,f,Kd.dr hR (fun k hk=>hk.1.1) _,Kd.dr (Kd.mm (ok:=fun k=>(k≠p.g/\k≠p.tb)/\ ¬p.bad k) i hG hat) (fun k hk=>hk.1.1.1) _,?_⟩;refine j.then (((jd.refl _ _).grown hG (fun k hk=> .inl (.inr (.inr (.inl hk.symm))))).set (.inl rfl) _) (fun k hk=>?_)
 rcases hk with hk|hk|hk|hk
 ·exact .inl (.inl hk)
 ·exact .inl (.inr (.inl hk))
 ·rcases hat with e|⟨q,e,hq⟩
  ·exact .inl (.inr (.inr (.inl (hk.trans e))))
  ·rw[e]at hk;injection hk with hk;exact .inr (by omega)
 ·exact .inl (.inr (.inr (.inr hk)))
theorem aG.codes{w1:World}{v1:Value}{l:List aW}(h:aG R w p x vS vC)(hG:w.grownBy w1 vC.ownBlock)(hat:v1.ownBlock=vC.ownBlock\/ ∃b,v1.ownBlock=some b/\w.heap.size<=b)(hR:zM w1 (fun k=>((k≠p.g/\k≠p.tb)/\ ¬p.bad k)/\some k≠vS.ownBlock) v1 l):
 aG R (w1.setCell ⟨p.g,14,none⟩ v1) p ⟨x.s,l,x.left,x.pos⟩ vS v1:=by
 have hh:=h.lt;obtain⟨a,b,c,d,e,f,g,i,j⟩:=h;have n1:some p.g≠vC.ownBlock:=fun e=>(i.1 p.g e.symm).1.1.1 rfl
 have n2:some p.tb≠vC.ownBlock:=fun e=>(i.1 p.tb e.symm).1.1.2 rfl
 have a2:=bC (bD a hG n1) 14 v1;rw[Sd b]at a2;refine⟨a2,b,c,bR (bD d hG n2) (p:=⟨p.g,14,none⟩) (fun e=>c e.symm) _,⟨e.1,fun k hk=>by have:=e.2 k hk;have:=hG.size;simp only[World.setCell];simp;omega⟩,f,Kd.dr (Kd.mm (ok:=fun k=>k≠p.g/\k≠p.tb) g hG hat) (fun k hk=>hk.1.1) _,Kd.dr hR (fun k hk=>hk.1.1.1) _,?_⟩;refine j.then (((jd.refl _ _).grown hG (fun k hk=> .inl (.inr (.inr (.inr hk.symm))))).set (.inl rfl) _) (fun k hk=>?_)
 rcases hk with hk|hk|hk|hk
 ·exact .inl (.inl hk)
 ·exact .inl (.inr (.inl hk))
 ·exact .inl (.inr (.inr (.inl hk)))
 ·rcases hat with e|⟨q,e,hq⟩
  ·exact .inl (.inr (.inr (.inr (hk.trans e))))
  ·rw[e]at hk;injection hk with hk;exact .inr (by omega)
theorem aG.cut{A:Option Addr}{n c:Nat}(h:aG R w p x (.slice A n c) vC)(m:Nat)(hm:m<=x.s.length):aG R (w.setCell ⟨p.g,12,none⟩ (.slice A m c)) p ⟨x.s.take m,x.code,x.left,x.pos⟩ (.slice A m c) vC:=
 aG.types h ⟨rfl,rfl,rfl,aU _,fun _ _ _=>rfl⟩ (.inl (by cases A<;>rfl)) (by
  have q:=Kd.nR (m:=m) h.2.2.2.2.2.2.1 hm;cases A<;>exact q)
theorem aG.labels(h:aG R w p x vS vC)(v:Value):aG R (w.setCell ⟨p.g,13,none⟩ v) {p with vL:=v} x vS vC:=by
 obtain⟨a,b,c,d,e,f,g,i,j⟩:=h;have a2:=bC a 13 v;rw[Sc b]at a2;exact⟨a2,b,c,bR d (p:=⟨p.g,13,none⟩) (fun e=>c e.symm) _,⟨e.1,fun k hk=>by have:=e.2 k hk;simp only[World.setCell];simpa using this⟩,f,Kd.dr g (fun k hk=>hk.1.1) _,Kd.dr i (fun k hk=>hk.1.1.1) _,j.then ((jd.refl _ _).set (.inl rfl) _) (fun k hk=> .inl hk)⟩
end
theorem jd.mono{O O':Nat->Prop}{a b:World}(h:jd O a b)(hO: ∀k,O k->O' k):jd O' a b:=⟨h.os,h.tape,h.output,h.size,fun k hk hn=>h.block k hk (fun e=>hn (hO k e))⟩
structure MP where
 mb:Nat
 tb:Nat
 rb:Nat
 vT:Value
 tape:List Int
 f0:Value
 f1:Value
 f4:Value
 f6:Value
 f7:Value
structure MS where
 pos:Int
 fs:List iB
 ms:List jw
 es:List jg
def FR(q:MP)(v2 v3 v5:Value):Nat->Prop:=fun k=>k=q.mb\/k=q.tb\/k=q.rb\/some k=v2.ownBlock\/some k=v3.ownBlock\/some k=v5.ownBlock
def Tt(q:MP)(v3 v5:Value):Nat->Prop:=fun k=> ¬(k=q.mb\/k=q.tb\/k=q.rb\/some k=v3.ownBlock\/some k=v5.ownBlock)
def zN(q:MP)(v2 v3 v5:Value):Array Value:=#[q.f0,q.f1,v2,v3,q.f4,v5,q.f6,q.f7]
abbrev eR:Array Value:=#[.slice none 0 0,.slice none 0 0,.slice none 0 0,.slice none 0 0,.slice none 0 0,.slice none 0 0,.slice none 0 0,.slice none 0 0]
structure lG(P:World->Prop)(w:World)(q:MP)(x:MS)(v2 v3 v5:Value):Prop where
 box:w.heap[q.mb]? =some (.cells (zN q v2 v3 v5) 37 (0,0))
 tp:w.heap[q.tb]? =some (.cells #[q.vT,.int .i64 x.pos] 82 (0,0))
 res:w.heap[q.rb]? =some (.cells eR 37 (0,0))
 nr:q.mb≠q.rb
 p0:0<=x.pos
 p1:x.pos<=q.tape.length
 rf:Kd.N fL 59 w 0 (Tt q v3 v5) v2 x.fs
 rm:jQ.R 74 w 0 (fun _=>True) v3 x.ms
 re:lW.R 86 w 0 (fun _=>True) v5 x.es
 fz:Fz w (FR q v2 v3 v5) P
theorem jB{α:Type}{d:Kd α}{e base:Nat}{ok:Nat->Prop}{w w1:World}{v:Value}{xs:List α}(hE:d.E= [])(h:d.R e w base ok v xs)(hm: ∀k,v.ownBlock=some k->w1.heap[k]? =w.heap[k]?):d.R e w1 base (fun _=>True) v xs:=
 Kd.bQ (Kd.jN (Kd.rL hE h) (fun k hk=>hm k hk.symm)) (fun _ _=>trivial)
section
variable {P P':World->Prop} {w w' w1:World} {q:MP} {x:MS} {v1 v2 v3 v5:Value}
theorem lG.get(h:lG P w q x v2 v3 v5):P w:=h.fz w (jd.refl _ _)
theorem lG.ne(h:lG P w q x v2 v3 v5):q.mb≠q.tb:=Gv h.box h.tp (by decide)
theorem lG.and(h:lG P w q x v2 v3 v5)(hP:Fz w (FR q v2 v3 v5) P'):lG (fun W=>P W/\P' W) w q x v2 v3 v5:=⟨h.box,h.tp,h.res,h.nr,h.p0,h.p1,h.rf,h.rm,h.re,fun W hW=>⟨h.fz W hW,hP W hW⟩⟩
theorem lG.iC(h:lG P w q x v2 v3 v5){k:Nat}(hk:FR q v2 v3 v5 k):k<w.heap.size:=by
 rcases hk with rfl|rfl|rfl|hk|hk|hk
 ·exact aj h.box
 ·exact aj h.tp
 ·exact aj h.res
 ·exact Kd.J1 h.rf k hk.symm
 ·exact Kd.gY h.rm k hk.symm
 ·exact Kd.gY h.re k hk.symm
theorem lG.far(h:lG P w q x v2 v3 v5){k:Nat}(hk:w.heap.size<=k): ¬FR q v2 v3 v5 k:=fun e=>by have:=h.iC e;omega
theorem lG.below(h:lG P w q x v2 v3 v5)(hb:Below w.heap.size w w'):lG P w' q x v2 v3 v5:=
 ⟨(hb.block _ (aj h.box)).trans h.box,(hb.block _ (aj h.tp)).trans h.tp,(hb.block _ (aj h.res)).trans h.res,h.nr,h.p0,h.p1,Kd.oT h.rf hb,Kd.cM h.rm hb,Kd.cM h.re hb,h.fz.then ((jd.refl _ _).below hb) (fun k hk=> .inl hk)⟩
theorem lG.drewN(h:lG P w q x v2 v3 v5)(n:Nat):lG P (w.drewN n) q x v2 v3 v5:=h.below (aq (ay _ _) n)
theorem lG.off(h:lG P w q x v2 v3 v5)(hO:jd (fun k=>k=q.tb) w w'){n:Int}(ht:w'.heap[q.tb]? =some (.cells #[q.vT,.int .i64 n] 82 (0,0)))(h0:0<=n)(h1:n<=q.tape.length):lG P w' q ⟨n,x.fs,x.ms,x.es⟩ v2 v3 v5 where
 box:=(hO.block _ (aj h.box) h.ne).trans h.box
 tp:=ht
 res:=(hO.block _ (aj h.res) (Gv h.res h.tp (by decide))).trans h.res
 nr:=h.nr
 p0:=h0
 p1:=h1
 rf:=Kd.qB h.rf (fun k hk bI=>hO.block k bI (fun e=>hk (.inr (.inl e))))
 rm:=jB rfl h.rm (fun k hk=>hO.block k (Kd.gY h.rm k hk) (fun e=>Kd.kr h.rm h.tp (by decide) (by rw[hk,e])))
 re:=jB rfl h.re (fun k hk=>hO.block k (Kd.gY h.re k hk) (fun e=>Kd.kr h.re h.tp (by decide) (by rw[hk,e])))
 fz:=h.fz.then (hO.mono (fun k hk=> .inr (.inl hk))) (fun k hk=> .inl hk)
theorem lC{v v1:Value}{w:World}(hat:v1.ownBlock=v.ownBlock\/ ∃b,v1.ownBlock=some b/\w.heap.size<=b){k:Nat}(hk:some k=v1.ownBlock):some k=v.ownBlock\/w.heap.size<=k:=by
 rcases hat with e|⟨b,e,hb⟩
 ·exact .inl (hk.trans e)
 ·rw[e]at hk;injection hk with hk;exact .inr (by omega)
theorem lG.U8{es:List jg}(h:lG P w q x v2 v3 v5)(hG:w.grownBy w1 v5.ownBlock)(hat:v1.ownBlock=v5.ownBlock\/ ∃b,v1.ownBlock=some b/\w.heap.size<=b)(hR:lW.R 86 w1 0 (fun _=>True) v1 es):
 lG P (w1.setCell ⟨q.mb,5,none⟩ v1) q ⟨x.pos,x.fs,x.ms,es⟩ v2 v3 v1:=by
 have n1:some q.mb≠v5.ownBlock:=Kd.kr h.re h.box (by decide);have hb:=bD h.box hG n1;have ht:=bD h.tp hG (Kd.kr h.re h.tp (by decide));refine⟨bC hb 5 v1,bR ht (p:=⟨q.mb,5,none⟩) (fun e=>h.ne e.symm) _,bR (bD h.res hG (Kd.kr h.re h.res (by decide))) (p:=⟨q.mb,5,none⟩) (fun e=>h.nr e.symm) _,h.nr,h.p0,h.p1,?_,?_,?_,?_⟩
 ·refine Kd.mU (Kd.qB (Kd.Cy h.rf) (fun k hk bI=>(dX w1 ⟨q.mb,5,none⟩ v1 k (fun e=>hk.1 (.inl e))).trans (hG.block k bI (fun e=>hk.1 (.inr (.inr (.inr (.inr e)))))))) (fun k hk ho=>?_)
  rcases ho with e|e|e|e|e
  ·exact hk.1 (.inl e)
  ·exact hk.1 (.inr (.inl e))
  ·exact hk.1 (.inr (.inr (.inl e)))
  ·exact hk.1 (.inr (.inr (.inr (.inl e))))
  ·rcases lC hat e with e|e
   ·exact hk.1 (.inr (.inr (.inr (.inr e))))
   ·have:=hk.2;omega
 ·refine jB rfl h.rm (fun k hk=>(dX w1 ⟨q.mb,5,none⟩ v1 k (fun e=>Kd.kr h.rm h.box (by decide) (by rw[hk,show k=q.mb from e]))).trans (hG.block k (Kd.gY h.rm k hk) ?_))
  obtain⟨c,hc⟩:=Kd.rK h.rm k hk;exact Kd.kr h.re hc (by decide)
 ·exact jB rfl hR (fun k hk=>dX w1 ⟨q.mb,5,none⟩ v1 k (fun e=>Kd.kr hR hb (by decide) (by rw[hk,show k=q.mb from e])))
 ·refine h.fz.then (((jd.refl _ _).grown hG (fun k hk=> .inl (.inr (.inr (.inr (.inr (.inr hk.symm))))))).set (.inl rfl) _) (fun k hk=>?_)
  rcases hk with e|e|e|e|e|e
  ·exact .inl (.inl e)
  ·exact .inl (.inr (.inl e))
  ·exact .inl (.inr (.inr (.inl e)))
  ·exact .inl (.inr (.inr (.inr (.inl e))))
  ·exact .inl (.inr (.inr (.inr (.inr (.inl e)))))
  ·exact(lC hat e).imp (fun e=> .inr (.inr (.inr (.inr (.inr e))))) id
theorem lG.ac4{ms:List jw}(h:lG P w q x v2 v3 v5)(hG:w.grownBy w1 v3.ownBlock)(hat:v1.ownBlock=v3.ownBlock\/ ∃b,v1.ownBlock=some b/\w.heap.size<=b)(hR:jQ.R 74 w1 0 (fun _=>True) v1 ms):
 lG P (w1.setCell ⟨q.mb,3,none⟩ v1) q ⟨x.pos,x.fs,ms,x.es⟩ v2 v1 v5:=by
 have n1:some q.mb≠v3.ownBlock:=Kd.kr h.rm h.box (by decide);have hb:=bD h.box hG n1;have ht:=bD h.tp hG (Kd.kr h.rm h.tp (by decide));refine⟨bC hb 3 v1,bR ht (p:=⟨q.mb,3,none⟩) (fun e=>h.ne e.symm) _,bR (bD h.res hG (Kd.kr h.rm h.res (by decide))) (p:=⟨q.mb,3,none⟩) (fun e=>h.nr e.symm) _,h.nr,h.p0,h.p1,?_,?_,?_,?_⟩
 ·refine Kd.mU (Kd.qB (Kd.Cy h.rf) (fun k hk bI=>(dX w1 ⟨q.mb,3,none⟩ v1 k (fun e=>hk.1 (.inl e))).trans (hG.block k bI (fun e=>hk.1 (.inr (.inr (.inr (.inl e)))))))) (fun k hk ho=>?_)
  rcases ho with e|e|e|e|e
  ·exact hk.1 (.inl e)
  ·exact hk.1 (.inr (.inl e))
  ·exact hk.1 (.inr (.inr (.inl e)))
  ·rcases lC hat e with e|e
   ·exact hk.1 (.inr (.inr (.inr (.inl e))))
   ·have:=hk.2;omega
  ·exact hk.1 (.inr (.inr (.inr (.inr e))))
 ·exact jB rfl hR (fun k hk=>dX w1 ⟨q.mb,3,none⟩ v1 k (fun e=>Kd.kr hR hb (by decide) (by rw[hk,show k=q.mb from e])))
 ·refine jB rfl h.re (fun k hk=>(dX w1 ⟨q.mb,3,none⟩ v1 k (fun e=>Kd.kr h.re h.box (by decide) (by rw[hk,show k=q.mb from e]))).trans (hG.block k (Kd.gY h.re k hk) ?_))
  obtain⟨c,hc⟩:=Kd.rK h.re k hk;exact Kd.kr h.rm hc (by decide)
 ·refine h.fz.then (((jd.refl _ _).grown hG (fun k hk=> .inl (.inr (.inr (.inr (.inr (.inl hk.symm))))))).set (.inl rfl) _) (fun k hk=>?_)
  rcases hk with e|e|e|e|e|e
  ·exact .inl (.inl e)
  ·exact .inl (.inr (.inl e))
  ·exact .inl (.inr (.inr (.inl e)))
  ·exact .inl (.inr (.inr (.inr (.inl e))))
  ·exact(lC hat e).imp (fun e=> .inr (.inr (.inr (.inr (.inl e))))) id
  ·exact .inl (.inr (.inr (.inr (.inr (.inr e)))))
theorem lG.OW{fs:List iB}(h:lG P w q x v2 v3 v5)(hG:w.grownBy w1 v2.ownBlock)(hat:v1.ownBlock=v2.ownBlock\/ ∃b,v1.ownBlock=some b/\w.heap.size<=b)(hR:Kd.N fL 59 w1 0 (Tt q v3 v5) v1 fs):
 w1.heap[q.mb]? =some (.cells (zN q v2 v3 v5) 37 (0,0))/\w1.heap[q.tb]? =some (.cells #[q.vT,.int .i64 x.pos] 82 (0,0))/\w1.heap[q.rb]? =some (.cells eR 37 (0,0))/\jQ.R 74 w1 0 (fun _=>True) v3 x.ms/\lW.R 86 w1 0 (fun _=>True) v5 x.es/\Fz w1 (FR q v1 v3 v5) P:=by
 refine⟨bD h.box hG (Kd.Mx h.rf h.box (by decide)),bD h.tp hG (Kd.Mx h.rf h.tp (by decide)),bD h.res hG (Kd.Mx h.rf h.res (by decide)),?_,?_,?_⟩
 ·refine jB rfl h.rm (fun k hk=>hG.block k (Kd.gY h.rm k hk) ?_)
  obtain⟨c,hc⟩:=Kd.rK h.rm k hk;exact Kd.Mx h.rf hc (by decide)
 ·refine jB rfl h.re (fun k hk=>hG.block k (Kd.gY h.re k hk) ?_)
  obtain⟨c,hc⟩:=Kd.rK h.re k hk;exact Kd.Mx h.rf hc (by decide)
 ·refine h.fz.then ((jd.refl _ _).grown hG (fun k hk=> .inl (.inr (.inr (.inr (.inl hk.symm)))))) (fun k hk=>?_)
  rcases hk with e|e|e|e|e|e
  ·exact .inl (.inl e)
  ·exact .inl (.inr (.inl e))
  ·exact .inl (.inr (.inr (.inl e)))
  ·exact(lC hat e).imp (fun e=> .inr (.inr (.inr (.inl e)))) id
  ·exact .inl (.inr (.inr (.inr (.inr (.inl e)))))
  ·exact .inl (.inr (.inr (.inr (.inr (.inr e)))))
theorem lG.U9{fs:List iB}(h:lG P w q x v2 v3 v5)(hG:w.grownBy w1 v2.ownBlock)(hR:Kd.N fL 59 w1 0 (Tt q v3 v5) v2 fs):lG P w1 q ⟨x.pos,fs,x.ms,x.es⟩ v2 v3 v5:=by
 obtain⟨a,b,r,c,d,e⟩:=h.OW hG (.inl rfl) hR;exact⟨a,b,r,h.nr,h.p0,h.p1,hR,c,d,e⟩
theorem lG.ac5{fs:List iB}(h:lG P w q x v2 v3 v5)(hG:w.grownBy w1 v2.ownBlock)(hat:v1.ownBlock=v2.ownBlock\/ ∃b,v1.ownBlock=some b/\w.heap.size<=b)(hR:Kd.N fL 59 w1 0 (Tt q v3 v5) v1 fs):
 lG P (w1.setCell ⟨q.mb,2,none⟩ v1) q ⟨x.pos,fs,x.ms,x.es⟩ v1 v3 v5:=by
 obtain⟨a,b,r,c,d,e⟩:=h.OW hG hat hR;refine⟨bC a 2 v1,bR b (p:=⟨q.mb,2,none⟩) (fun e=>h.ne e.symm) _,bR r (p:=⟨q.mb,2,none⟩) (fun e=>h.nr e.symm) _,h.nr,h.p0,h.p1,Kd.My hR (fun k hk e=>hk (.inl e)) _,?_,?_,e.then ((jd.refl _ _).set (.inl rfl) _) (fun k hk=> .inl hk)⟩
 ·exact jB rfl c (fun k hk=>dX w1 ⟨q.mb,2,none⟩ v1 k (fun e=>Kd.kr c a (by decide) (by rw[hk,show k=q.mb from e])))
 ·exact jB rfl d (fun k hk=>dX w1 ⟨q.mb,2,none⟩ v1 k (fun e=>Kd.kr d a (by decide) (by rw[hk,show k=q.mb from e])))
theorem lG.dat(h:lG P w q x v2 v3 v5)(v:Value):lG P (w.setCell ⟨q.mb,6,none⟩ v) {q with f6:=v} x v2 v3 v5:=by
 have far: ∀k,k≠q.mb->(w.setCell ⟨q.mb,6,none⟩ v).heap[k]? =w.heap[k]? :=fun k hk=>dX w ⟨q.mb,6,none⟩ v k hk
 refine⟨bC h.box 6 v,bR h.tp (p:=⟨q.mb,6,none⟩) (fun e=>h.ne e.symm) _,bR h.res (p:=⟨q.mb,6,none⟩) (fun e=>h.nr e.symm) _,h.nr,h.p0,h.p1,Kd.My h.rf (fun k hk e=>hk (.inl e)) _,?_,?_,h.fz.then ((jd.refl _ _).set (.inl rfl) _) (fun k hk=> .inl hk)⟩
 ·exact jB rfl h.rm (fun k hk=>far k (fun e=>Kd.kr h.rm h.box (by decide) (by rw[hk,e])))
 ·exact jB rfl h.re (fun k hk=>far k (fun e=>Kd.kr h.re h.box (by decide) (by rw[hk,e])))
end
theorem nO(n m:Int)(hm:0<=m)(hm2:m<=4294967296)(w:World):Calls prog 55 #[.int .i64 n,.int .i64 0,.int .i64 m] w (fun e w'=>(∃r,0<=r/\r<=m/\e= .returned (.int .i64 r))/\w'=w):=by
 have h1:(m+1==0)=false:=by simp;omega
 have h2: ¬m+1=0:=by omega
 have w1:wrap64 (m-0)=m:=by unfold wrap64;omega
 have w2:wrap64 (m+1)=m+1:=by unfold wrap64;omega
 have t1:(n.tmod (m+1))<m+1:=Int.tmod_lt_of_pos n (by omega);have t2: -(m+1)<n.tmod (m+1):=by have h3:=Int.tmod_lt_of_pos (-n) (b:=m+1) (by omega);rw[Int.neg_tmod]at h3;omega
 have hc:=hd (And.intro t1 t2);have w3:wrap64 (n.tmod (m+1))=n.tmod (m+1):=by unfold wrap64;omega
 have w4:wrap64 (n.tmod (m+1)+m)=n.tmod (m+1)+m:=by unfold wrap64;omega
 have w5:wrap64 (n.tmod (m+1)+m-0)=n.tmod (m+1)+m:=by unfold wrap64;omega
 have w6:wrap64 (n.tmod (m+1)+m+1)=n.tmod (m+1)+m+1:=by unfold wrap64;omega
 have w7:wrap64 (0+n.tmod (m+1))=n.tmod (m+1):=by rw[Int.zero_add];exact w3
 have e1:0<=n%(m+1):=Int.emod_nonneg _ (by omega);have e2:n%(m+1)<m+1:=Int.emod_lt_of_pos _ (by omega);have e3: ¬n%(m+1)<0:=by omega
 have v3:wrap64 (n%(m+1))=n%(m+1):=by unfold wrap64;omega
 have v7:wrap64 (0+n%(m+1))=n%(m+1):=by rw[Int.zero_add];exact v3
 clear t1 t2
 go_enter func55,ntmps55
 go_wp2_with fail
 all_goals go_ret
 all_goals
  have hh:=hc.o;refine⟨⟨_,?_,?_,rfl⟩,rfl⟩<;>(simp only[beq_iff_eq,beq_eq_false_iff_ne,ne_eq,decide_eq_true_eq,iy,Bool.and_eq_true,Int.not_lt,Int.not_le]at *;omega)
def Si(tb:Nat)(tape:List Int)(pos n:Int)(w:World)(e:Ending)(w':World):Prop:=
 ∃r pos',0<=r/\r<n/\e= .returned (.int .i64 r)/\0<=pos'/\pos'<=(tape.length:Int)/\((∃k,w'=w.drewN k/\pos'=pos)\/ ∃a b,w'=((w.drewN a).setCell ⟨tb,1,none⟩ (.int .i64 pos')).drewN b)
theorem Cb(w:World)(tb:Nat)(A:Option Addr)(c:Nat)(tape:List Int)(pos n:Int)(hb:w.heap[tb]? =some (.cells #[.slice A tape.length c,.int .i64 pos] 82 (0,0)))(hC: ∀W,jd (fun k=>k=tb) w W->bf W A tape)(p0:0<=pos)(p1:pos<=tape.length)(hl:tape.length<=4611686018427387904)(n1:0<n)(n2:n<=4294967296):Calls prog 30 #[.pointer (some ⟨tb,0,none⟩),.int .i64 n] w (Si tb tape pos n w):=by
 obtain⟨ad0,hA⟩:=ex A;clear hA ad0;have hC0:=hC w (jd.refl _ _);have c0:=(aa hb 0).trans rfl;have c1:=(aa hb 1).trans rfl;have f1:=ah hb 1;have hn0: ¬n=0:=by omega
 have BB:(n==0)=false:=by simpa using hn0
 by_cases hp:(tape.length:Int)<=pos
 ·have hge:pos≥(tape.length:Int):=hp
  have P0:=hd p0;have P1:=hd p1;have N1:=hd n1;clear hn0 BB p1 n1 n2 hl hC hC0 f1 hb
  go_enter func30,ntmps30
  go_wp2_with fail
  go_quiet (fail)
  go_wp2_with fail
  go_ret;exact⟨0,pos,Int.le_refl _,N1.o,rfl,P0.o,P1.o,.inl ⟨_,rfl,rfl⟩⟩
 ·have bI: ¬pos≥(tape.length:Int):=hp
  obtain⟨ad,rfl,q0⟩:=Kd.fQ hC0 pos p0 (by omega);have w1:wrap64 (pos+1)=pos+1:=by unfold wrap64;omega
  have w2:wrap64 (pos+1-1)=pos:=by rw[show pos+1-1=pos by omega];unfold wrap64;omega
  have w3:pos+1-1=pos:=by omega
  have w4:wrap64 pos=pos:=by unfold wrap64;omega
  have hi9:pos<(tape.length:Int):=by omega
  have P:=hd (show 0<=pos+1/\pos+1<=(tape.length:Int)from⟨by omega,by omega⟩);have N1:=hd n1;have N2:=hd n2;have HB:=hd hb;have HC:=hd hC;have HI9:=hd hi9;have P0:=hd p0;clear n1 n2 hl hb hC hC0 p1 q0 hp hi9 p0
  go_enter func30,ntmps30
  go_wp2_with fail
  go_quiet (fail)
  go_wp2_with fail
  clear c0 c1 f1 bI;generalize hW:World.setCell _ ⟨tb,1,none⟩ (.int .i64 (pos+1))=W at⊢;have z:=bC (w:=w.drewN nq) HB.o 1 (.int .i64 (pos+1));rw[hW]at z;have hC1:bf W (some ad) tape:=HC.o W (hW▸((jd.refl (fun k=>k=tb) w).below (aq (ay _ _) _)).set (g:=tb) rfl _);obtain⟨Tb,ha2,q1⟩:=Kd.fQ hC1 pos P0.o (by have:=HI9.o;omega);injection ha2 with ha2;subst ha2;have HW:=hd hW;clear hW hC1;have c0:=(aa z 0).trans rfl;have c1:=(aa z 1).trans rfl;have p0:=P0.o;have hi9:=HI9.o;refine st 15 (fun w'=>w'.cell? ⟨tb,0,none⟩=some (.slice (some ad) tape.length c)/\w'.cell? ⟨tb,1,none⟩=some (.int .i64 (pos+1))/\w'.cell? (ad.add pos.toNat)=some (.int .i64 (rd tape pos))) [] ⟨c0,c1,q1⟩ (fun ag=>?_);refine cZ 0 22 1 23 2 24 ?_;refine tk 3 25 ag ?_;refine cZ 4 26 5 27 6 28 ?_;refine tk 7 29 ag ?_;refine pu2 8 30 9 31 ?_;refine tk 10 32 ag ?_;refine pu 12 34 ?_;refine on 11 (some 33) (fun K hK=>?_);refine ge (nO (rd tape pos) 1073741824 (by omega) (by omega) _) ?_;rintro e w'⟨⟨v,v0,v1,rfl⟩,rfl⟩;refine⟨_,rfl,?_⟩;refine hK.o _ _ ag (fun ag=>?_);clear hK K;refine nm ?_;refine pu2 13 35 14 4 ?_;refine dn ?_;have WJ:=N1.o
  go_wp2_with fail
  go_ret;have t1:=Int.emod_nonneg v (by omega:n≠0);have t2:=Int.emod_lt_of_pos v N1.o;have t3:v.tmod n=v%n:=Int.tmod_eq_emod_of_nonneg v0;have t4:wrap64 (v%n)=v%n:=by have:=N2.o;unfold wrap64;omega
  refine⟨v%n,pos+1,t1,t2,?_,P.o.1,P.o.2,.inr ⟨nq,1,by rw[HW.o];rfl⟩⟩;simp[t3,t4]
def dH(R:World->Prop)(p:GP):Prop:=p.tape.length<=4611686018427387904/\ ∃A c,p.vT= .slice A p.tape.length c/\ ∀W,R W->bf W A p.tape
theorem dH.weak{R R':World->Prop}{p:GP}(h:dH R p)(hR: ∀W,R' W->R W):dH R' p:=by
 obtain⟨a,A,c,e,f⟩:=h;exact⟨a,A,c,e,fun W hW=>f W (hR W hW)⟩
theorem dH.Lx{R:World->Prop}{p:GP}(h:dH R p)(v:Value):dH R {p with vL:=v}:=h
theorem bK{R:World->Prop}{w:World}{p:GP}{x:fT}{vS vC:Value}(h:aG R w p x vS vC)(hT:dH R p)(n:Int)(n1:0<n)(n2:n<=4294967296):
 Calls prog 30 #[.pointer (some ⟨p.tb,0,none⟩),.int .i64 n] w (fun e w'=> ∃r q,0<=r/\r<n/\e= .returned (.int .i64 r)/\aG R w' p ⟨x.s,x.code,x.left,q⟩ vS vC):=by
 obtain⟨hl,A,c,e,f⟩:=hT;have hb:=h.2.2.2.1;rw[e]at hb;refine(Cb w p.tb A c p.tape x.pos n hb (fun W hW=>f W (h.2.2.2.2.2.2.2.2 W ((jd.refl _ w).then hW (fun k hk=> .inl (.inr (.inl hk)))))) h.2.2.2.2.1.1 h.2.2.2.2.2.1 hl n1 n2).mono ?_;rintro e w'⟨r,q,r0,r1,he,q0,q1,hw⟩;refine⟨r,q,r0,r1,he,?_⟩;rcases hw with⟨k,rfl,rfl⟩|⟨a,b,rfl⟩
 ·exact h.drewN k
 ·exact((h.drewN a).pos q q0 q1).drewN b
theorem jm:(prog.info? 25).map (fun i=>(i.zero,i.size,i.bytes))=some (some (.agg #[.int .i64 0,.int .i64 0,.int .i64 0,.int .u64 0,.slice none 0 0]),5,56):=by kernel_rfl
theorem JF{R:World->Prop}{w:World}{p:GP}{x:fT}{vS vC:Value}(h:aG R w p x vS vC)(i:aW)(v4:Value)(hL:bl w 0 (fun k=>(((k≠p.g/\k≠p.tb)/\ ¬p.bad k)/\some k≠vS.ownBlock)/\some k≠vC.ownBlock) v4 i.f4)(hl:x.code.length<=1000000):Calls prog 35 #[.pointer (some ⟨p.g,0,none⟩),.agg #[.int .i64 i.f0,.int .i64 i.f1,.int .i64 i.f2,.int .u64 i.f3,v4]] w (uJ R p (.tuple #[]) (fun y=>y=⟨x.s,x.code++ [i],x.left,x.pos⟩)):=by
 have hb:=h.box #[.int .i64 i.f0,.int .i64 i.f1,.int .i64 i.f2,.int .u64 i.f3,v4] 25;have hr:=Kd.aZ hL (.cells #[.int .i64 i.f0,.int .i64 i.f1,.int .i64 i.f2,.int .u64 i.f3,v4] 25);have bI:=h.lt;have GA:=h.far (aU _);obtain⟨bx,gG⟩:=ex w.heap.size
 go_enter func35,ntmps35
 go_wp2_with fail
 rw[<-gG]at hb GA⊢;generalize w.alloc (.cells #[.int .i64 i.f0,.int .i64 i.f1,.int .i64 i.f2,.int .u64 i.f3,v4] 25)=X at hb hr⊢;obtain⟨PC,kC,rfl⟩:=Kd.ai hb.2.2.2.2.2.2.2.1;have HB:=hd hb;have HR:=hd hr;have HL:=hd hl;have ac8:=hd GA;clear h hb hr hL hl bI gG GA;have y14:=(aa HB.o.1 14).trans (Sb HB.o.2.1 _ _ _);have t0:=(aa HB.o.get.2 0).trans rfl;have t1:=(aa HB.o.get.2 1).trans rfl;have t2:=(aa HB.o.get.2 2).trans rfl;have t3:=(aa HB.o.get.2 3).trans rfl;have t4:=(aa HB.o.get.2 4).trans rfl;refine st 11 (fun w'=>w'.cell? ⟨p.g,14,none⟩=some (.slice PC x.code.length kC)/\w'.cell? ⟨bx,0,none⟩=some (.int .i64 i.f0)/\w'.cell? ⟨bx,1,none⟩=some (.int .i64 i.f1)/\w'.cell? ⟨bx,2,none⟩=some (.int .i64 i.f2)/\w'.cell? ⟨bx,3,none⟩=some (.int .u64 i.f3)/\w'.cell? ⟨bx,4,none⟩=some v4) [10] ⟨y14,t0,t1,t2,t3,t4⟩ (fun ag=>?_);refine cZ 0 4 1 5 2 6 ?_;refine pu 3 7 ?_;refine tk 4 8 ag ?_;refine tk 5 9 ag ?_;refine on 6 (some 10) (fun K hK=>?_);rw[if_pos (by rfl)]
 go_simp
 refine hK.o _ _ (by obtain⟨s0,s1,s2,s3,s4,s5⟩:=ag;exact⟨ak s0,ak s1,ak s2,ak s3,ak s4,ak s5⟩) (fun ag=>?_);clear hK K;refine on 7 (some 11) (fun K hK=>?_);have hst:=HB.o.lt;refine Kd.gP bW (w0:=X.drew) (W:=X.drew) 0 (by rfl) (.tmp 8) (.tmp 10) 26 25 (.agg #[.int .i64 0,.int .i64 0,.int .i64 0,.int .u64 0,.slice none 0 0]) 56 (by rfl) underlying26 jm rfl (by decide) (by decide) (.slice PC x.code.length kC) x.code i [.int .i64 i.f0,.int .i64 i.f1,.int .i64 i.f2,.int .u64 i.f3,v4] (fun k=>((k≠p.g/\k≠p.tb)/\ ¬p.bad k)/\some k≠vS.ownBlock) (fun k=>(((k≠p.g/\k≠p.tb)/\ ¬p.bad k)/\some k≠vS.ownBlock)/\some k≠(Value.slice PC x.code.length kC).ownBlock) (by rfl) (by rfl) (J5 _ _ _ i (Kd.fu HR.o)) (fun k hk=>hk) ?_ (Kd.fu HB.o.2.2.2.2.2.2.2.1) ⟨rfl,rfl,rfl,aU _,fun _ _=>rfl⟩ (Nat.zero_le _) ?_ ?_
 ·exact fun k hk=>by have hk2:X.heap.size<=k:=hk;exact⟨⟨⟨by omega,by omega⟩,fun hbd=>by have:=HB.o.2.2.2.2.1.2 k hbd;omega⟩,fun he=>by have:=hst.2.2.1 k he.symm;omega⟩
 ·have:=HL.o;omega
 intro v9 w9 hR hB hG hat;obtain⟨P9,k9,e9⟩:=Kd.ai hR;generalize (x.code++ [i]).length=n9 at e9;subst e9;have hgb:=bD (w:=X.drew) HB.o.1 hG (fun e=>(HB.o.2.2.2.2.2.2.2.1.1 p.g e.symm).1.1.1 rfl);have HG:=hd hG;have Ac:=hd hat;have ir:=hd hR;have Wm:=hd hgb;clear hG hat hR hB hgb;have ua: ∀(j:Nat) {v:Value},(#[.int .i64 i.f0,.int .i64 i.f1,.int .i64 i.f2,.int .u64 i.f3,v4]:Array Value)[j]? =some v->w9.cell? ⟨bx,j,none⟩=some v:=fun j v hv=>(aa ((HG.o.block bx (aj HB.o.get.2) (fun e=>ac8.o (.inr (.inr (.inr e))))).trans HB.o.get.2) j).trans hv
 refine hK.o _ _ ⟨(aa Wm.o 14).trans (Sb HB.o.2.1 _ _ _),ua 0 rfl,ua 1 rfl,ua 2 rfl,ua 3 rfl,ua 4 rfl⟩ (fun ag=>?_);clear hK K;refine nm ?_;have z14:=(aa Wm.o 14).trans (Sb HB.o.2.1 _ _ _);have f14:=ah Wm.o 14;refine pu2 8 12 9 13 ?_;refine la 10 ?_;refine dn ?_
 go_wp2_with fail
 go_end0
 exact⟨rfl,_,vS,_,rfl,(aG.codes (HB.o.drewN 1) HG.o Ac.o ir.o).weak (fun W hW=>hW.1)⟩
theorem zO{R:World->Prop}{w:World}{p:GP}{x:fT}{vS vC:Value}(h:aG R w p x vS vC)(op a b n:Int)(hl:x.code.length<=1000000):Calls prog 35 #[.pointer (some ⟨p.g,0,none⟩),.agg #[.int .i64 op,.int .i64 a,.int .i64 b,.int .u64 n,.slice none 0 0]] w (uJ R p (.tuple #[]) (fun y=>y=⟨x.s,x.code++ [⟨op,a,b,n,[]⟩],x.left,x.pos⟩)):=
 JF h ⟨op,a,b,n,[]⟩ (.slice none 0 0) (Kd.fS _ _ _ _ _) hl
def Up(a b:Nat)(x y:fT):Prop:=y.s.length=x.s.length+a/\y.code.length=x.code.length+b/\y.left=x.left
theorem Up.trans{a b c d:Nat}{x y z:fT}(h:Up a b x y)(k:Up c d y z):Up (a+c) (b+d) x z:=by unfold Up at *;omega
theorem Up.ls{a b n m:Nat}{x y:fT}(h:Up a b x y)(hx:x.s.length+n<=1000000)(hn:a+m<=n):y.s.length+m<=1000000:=by unfold Up at h;omega
theorem Up.lc{a b n m:Nat}{x y:fT}(h:Up a b x y)(hx:x.code.length+n<=1000000)(hn:b+m<=n):y.code.length+m<=1000000:=by unfold Up at h;omega
theorem Mf{R:World->Prop}{w:World}{p:GP}{x:fT}{vS vC:Value}{q:Int}(h:aG R w p (fT.mk x.s x.code x.left q) vS vC): ∃y,Hid (aG R w p y vS vC)/\Hid (Up 0 0 x y):=⟨_,hd h,hd ⟨rfl,rfl,rfl⟩⟩
theorem Ae{R:World->Prop}{w:World}{p:GP}{x:fT}{vS vC:Value}{q:Int}(h:aG R w p (fT.mk x.s x.code x.left q) vS vC): ∃y s c,s=vS/\c=vC/\Hid (aG R w p y s c)/\Hid (Up 0 0 x y):=⟨_,_,_,rfl,rfl,hd h,hd ⟨rfl,rfl,rfl⟩⟩
theorem gy{R:World->Prop}{w:World}{p:GP}{x:fT}{vS vC:Value}(h:aG R w p x vS vC){L:List Value}(hf:p.fx=L)(i j:Nat){v:Value}(hv:L[j]? =some v:=by rfl)(hi:i=j+1:=by rfl)(hj:j<11:=by decide):w.cell? ⟨p.g,i,none⟩=some v:=by
 subst hi;exact(aa h.1 (j+1)).trans ((YG h.2.1 _ _ _ j hj).trans (by rw[hf];exact hv))
theorem Bc(n:Nat)(h:n<=4611686018427387904):wrap64 (n:Int)=(n:Int):=by unfold wrap64;omega
theorem Va(l:List Int)(k:Nat)(hk:k<l.length):((l.map (Value.int .u64)).toArray)[k]? =some (.int .u64 (l[k]?.getD 0)):=by
 simp[List.getElem?_map,hk]
theorem len8{l:List Int}(h:l.length<=1000000):(l.length+1)*8<=140737488355328:=by omega
theorem aG.tr{R:World->Prop}{w:World}{p:GP}{x:fT}{vS vC:Value}(h:aG R w p x vS vC)(k:Nat)(hk:w.heap.size<=k):(k≠p.g/\k≠p.tb)/\some k≠vC.ownBlock:=by
 have hst:=h.lt;exact⟨⟨by omega,by omega⟩,fun he=>by have:=hst.2.2.2 k he.symm;omega⟩
theorem aG.Ii{R:World->Prop}{w:World}{p:GP}{x:fT}{vS vC:Value}(h:aG R w p x vS vC):some p.g≠vS.ownBlock:=fun e=>(h.2.2.2.2.2.2.1.1 p.g e.symm).1.1 rfl
theorem bY{R:World->Prop}{w:World}{p:GP}{x:fT}{vS vC:Value}(h:aG R w p x vS vC)(op a b n:Int)(hl:x.code.length<=1000000):Calls prog 35 #[.pointer (some ⟨p.g,0,none⟩),.agg #[.int .i64 op,.int .i64 a,.int .i64 b,.int .u64 n,.slice none 0 0]] w (uJ R p (.tuple #[]) (Up 0 1 x)):=
 (zO h op a b n hl).mono (fun e w' ⟨he,y,DZ,D8,hy,hg⟩=>⟨he,y,DZ,D8,by subst hy;exact⟨rfl,by simp,rfl⟩,hg⟩)
theorem pP{R:World->Prop}{w:World}{p:GP}{x:fT}{vS vC:Value}(h:aG R w p x vS vC)(hT:dH R p)(t:Int)(hs:x.s.length+4<=1000000)(hc:x.code.length+4<=1000000):Calls prog 116 #[.pointer (some ⟨p.g,0,none⟩),.int .i64 t] w (uJ R p (.tuple #[]) (Up 1 1 x)):=by
 obtain⟨W0,rfl⟩:=ex w;obtain⟨x0,rfl⟩:=ex x;obtain⟨Du,rfl⟩:=ex vS;obtain⟨Cc,rfl⟩:=ex vC;have cn:=hd h;have HT:=hd hT;clear h hT;have Gr:=hd hs;have xU:=hd hc;clear hs hc;have y0:=(aa cn.o.1 0).trans (jU _ _ _ _)
 go_enter func116,ntmps116
 go_wp2_with fail
 refine(bK cn.o HT.o 40 (by decide) (by decide)).mono ?_;rintro e W1⟨r1,q1,Dv,Dw,rfl,h1⟩;obtain⟨x1,Bd,Be,rfl,rfl,bE,fP⟩:=Ae h1;clear h1;clear y0;have y0:=(aa bE.o.1 0).trans (jU _ _ _ _)
 go_wp2_with fail
 refine(bK bE.o HT.o 4 (by decide) (by decide)).mono ?_;rintro e W2⟨r2,q2,D9,FT,rfl,h2⟩;obtain⟨x2,Bf,yb,rfl,rfl,bw,ep⟩:=Ae h2;clear h2;clear y0;by_cases hz:r2=0
 ·have hz1:(r2==0)=true:=by simp[hz]
  clear hz;have hb:=bw.o.box #[.int .u64 18446744073709551615,.int .u64 9223372036854775808,.int .u64 2147483647,.int .u64 2147483648,.int .u64 9218868437227405312,.int .u64 9221120237041090560,.int .u64 18442240474082181120,.int .u64 4609434218613702656,.int .u64 4746794007246405632,.int .u64 13970166044103278592,.int .u64 9223372036854775808,.int .u64 4890909195324358656] 22;have y0:=(aa hb.1 0).trans (jU _ _ _ _)
  go_wp2_with fail
  clear y0;refine(bK hb (HT.o.weak (fun W hW=>hW.1)) 12 (by decide) (by decide)).mono ?_;rintro e W3⟨r3,q3,r0,r1,rfl,h3⟩;have hq:=(aa h3.get.2 r3.toNat).trans (Va [18446744073709551615,9223372036854775808,2147483647,2147483648,9218868437227405312,9221120237041090560,18442240474082181120,4609434218613702656,4746794007246405632,13970166044103278592,9223372036854775808,4890909195324358656] r3.toNat (by simp;omega));obtain⟨x3,hx3⟩:=ex (fT.mk x2.s x2.code x2.left q3);rw[<-hx3]at h3;have cC:=hd (h3.weak (fun W hW=>hW.1));have gu:=hd (show Up 0 0 x2 x3 by subst hx3;exact⟨rfl,rfl,rfl⟩);clear h3 hx3 hb;obtain⟨v3,hv3⟩:=ex (([18446744073709551615,9223372036854775808,2147483647,2147483648,9218868437227405312,9221120237041090560,18442240474082181120,4609434218613702656,4746794007246405632,13970166044103278592,9223372036854775808,4890909195324358656]:List Int)[r3.toNat]?.getD 0);rw[<-hv3]at hq;clear hv3
  go_wp2_with fail
  all_goals
   have HL:=hd (show x3.code.length+0<=1000000 from((fP.o.trans ep.o).trans gu.o).lc xU.o (by decide));refine(bY cC.o _ _ _ _ HL.o).mono ?_;rintro e W4⟨rfl,x4,yc,rV,oz,h4⟩;have bP:=hd h4;have gX:=hd (show Up 0 1 x3 x4 from oz);clear h4 oz;have Vb:=hd (show x4.s.length+0<=1000000 from(((fP.o.trans ep.o).trans gu.o).trans gX.o).ls Gr.o (by decide));obtain⟨Lz,JG,Vc⟩:=Kd.ai bP.o.2.2.2.2.2.2.1;subst Vc;have fJ:=(aa bP.o.1 12).trans (jV bP.o.2.1 _ _ _)
   go_wp2_with (first|(at_builtin;(refine Kd.fc (Kd.int .i64) (w0:=W4) 0 rfl (.tmp 46) (.tmp 48) 23 3 (.int .i64 0) 8 rfl underlying23 cQ rfl (dG 0) (dG 7) (Value.slice Lz x4.s.length JG) x4.s t [.int .i64 t] (fun k=>(k≠p.g/\k≠p.tb)/\some k≠rV.ownBlock) (fun k=>((k≠p.g/\k≠p.tb)/\some k≠rV.ownBlock)/\some k≠(Value.slice Lz x4.s.length JG).ownBlock) rfl rfl rfl (fun _ hk=>hk) bP.o.tr bP.o.2.2.2.2.2.2.1 ⟨rfl,rfl,rfl,aU _,fun _ _=>rfl⟩ (Nat.zero_le _) (len8 Vb.o) ?_);intro v9 w9 hR hB hG hat;obtain⟨P9,k9,e9⟩:=Kd.ai hR;generalize (x4.s++ [t]).length=n9 at e9;subst e9;have hgb:=bD bP.o.1 hG bP.o.Ii;have z0:=(aa hgb 0).trans (jU _ _ _ _);have z12:=(aa hgb 12).trans (jV bP.o.2.1 _ _ _);have f12:=ah hgb 12;have HG:=hd hG;have Ac:=hd hat;have ir:=hd hR;clear hG hat hR hB hgb))
   have h9:=aG.types bP.o HG.o Ac.o ir.o;clear fJ z12 z0 f12;generalize w9.setCell ⟨p.g,12,none⟩ (.slice P9 n9 k9)=W5 at h9⊢;generalize Value.slice P9 n9 k9=ye at h9;obtain⟨x5,Ij⟩:=ex (fT.mk (x4.s++ [t]) x4.code x4.left x4.pos);rw[<-Ij]at h9;obtain⟨uW,rfl⟩:=ex rV;have gI:=hd h9;have kI:=hd (show Up 1 0 x4 x5 by subst Ij;exact⟨by simp,rfl,rfl⟩);clear h9 Ij
   go_end0
   exact⟨rfl,_,_,_,((((fP.o.trans ep.o).trans gu.o).trans gX.o).trans kI.o),gI.o⟩
 ·have hz1:(r2==0)=false:=by simpa using hz
  clear hz;obtain⟨x3,rfl⟩:=ex x2;have gu:=hd (show Up 0 0 x3 x3 from⟨rfl,rfl,rfl⟩);obtain⟨W3,rfl⟩:=ex W2;have cC:=bw
  go_wp2_with fail
  all_goals
   have HL:=hd (show x3.code.length+0<=1000000 from((fP.o.trans ep.o).trans gu.o).lc xU.o (by decide));refine(bY cC.o _ _ _ _ HL.o).mono ?_;rintro e W4⟨rfl,x4,yc,rV,oz,h4⟩;have bP:=hd h4;have gX:=hd (show Up 0 1 x3 x4 from oz);clear h4 oz;have Vb:=hd (show x4.s.length+0<=1000000 from(((fP.o.trans ep.o).trans gu.o).trans gX.o).ls Gr.o (by decide));obtain⟨Lz,JG,Vc⟩:=Kd.ai bP.o.2.2.2.2.2.2.1;subst Vc;have fJ:=(aa bP.o.1 12).trans (jV bP.o.2.1 _ _ _)
   go_wp2_with (first|(at_builtin;(refine Kd.fc (Kd.int .i64) (w0:=W4) 0 rfl (.tmp 46) (.tmp 48) 23 3 (.int .i64 0) 8 rfl underlying23 cQ rfl (dG 0) (dG 7) (Value.slice Lz x4.s.length JG) x4.s t [.int .i64 t] (fun k=>(k≠p.g/\k≠p.tb)/\some k≠rV.ownBlock) (fun k=>((k≠p.g/\k≠p.tb)/\some k≠rV.ownBlock)/\some k≠(Value.slice Lz x4.s.length JG).ownBlock) rfl rfl rfl (fun _ hk=>hk) bP.o.tr bP.o.2.2.2.2.2.2.1 ⟨rfl,rfl,rfl,aU _,fun _ _=>rfl⟩ (Nat.zero_le _) (len8 Vb.o) ?_);intro v9 w9 hR hB hG hat;obtain⟨P9,k9,e9⟩:=Kd.ai hR;generalize (x4.s++ [t]).length=n9 at e9;subst e9;have hgb:=bD bP.o.1 hG bP.o.Ii;have z0:=(aa hgb 0).trans (jU _ _ _ _);have z12:=(aa hgb 12).trans (jV bP.o.2.1 _ _ _);have f12:=ah hgb 12;have HG:=hd hG;have Ac:=hd hat;have ir:=hd hR;clear hG hat hR hB hgb))
   have h9:=aG.types bP.o HG.o Ac.o ir.o;clear fJ z12 z0 f12;generalize w9.setCell ⟨p.g,12,none⟩ (.slice P9 n9 k9)=W5 at h9⊢;generalize Value.slice P9 n9 k9=ye at h9;obtain⟨x5,Ij⟩:=ex (fT.mk (x4.s++ [t]) x4.code x4.left x4.pos);rw[<-Ij]at h9;obtain⟨uW,rfl⟩:=ex rV;have gI:=hd h9;have kI:=hd (show Up 1 0 x4 x5 by subst Ij;exact⟨by simp,rfl,rfl⟩);clear h9 Ij
   go_end0
   exact⟨rfl,_,_,_,((((fP.o.trans ep.o).trans gu.o).trans gX.o).trans kI.o),gI.o⟩
def kf(R:World->Prop)(p:GP)(M:bL)(L:List Int)(S:ig):Prop:=
 ∃w0 A0 c0 A1 c1 A2 c2 A3 c3 A4 c4 A5 c5 A6 c6 A7 c7 AL cL AS cS AR cR,p.fx= [.slice A0 M.f0.length c0,.slice A1 M.f1.length c1,.slice A2 M.f2.length c2,.slice A3 M.f3.length c3,.slice A4 M.f4.length c4,.slice A5 M.f5.length c5,.slice A6 M.f6.length c6,.slice A7 M.f7.length c7,.slice AL L.length cL,.slice AS S.f0.length cS,.slice AR S.f1.length cR]/\bZ.K w0 M [.slice A0 M.f0.length c0,.slice A1 M.f1.length c1,.slice A2 M.f2.length c2,.slice A3 M.f3.length c3,.slice A4 M.f4.length c4,.slice A5 M.f5.length c5,.slice A6 M.f6.length c6,.slice A7 M.f7.length c7]/\
  ∀W,R W->Ar w0 W/\bf W AL L/\bf W AS S.f0/\bf W AR S.f1
theorem kf.weak{R R':World->Prop}{p:GP}{M:bL}{L:List Int}{S:ig}(h:kf R p M L S)(hR: ∀W,R' W->R W):kf R' p M L S:=by
 obtain⟨w0,A0,c0,A1,c1,A2,c2,A3,c3,A4,c4,A5,c5,A6,c6,A7,c7,AL,cL,AS,cS,AR,cR,e,k,f⟩:=h;exact⟨w0,A0,c0,A1,c1,A2,c2,A3,c3,A4,c4,A5,c5,A6,c6,A7,c7,AL,cL,AS,cS,AR,cR,e,k,fun W hW=>f W (hR W hW)⟩
theorem kf.Lx{R:World->Prop}{p:GP}{M:bL}{L:List Int}{S:ig}(h:kf R p M L S)(v:Value):kf R {p with vL:=v} M L S:=h
theorem Ce{W:World}{M:bL}{A0 A1 A2 A3 A4 A5 A6 A7:Option Addr}{c0 c1 c2 c3 c4 c5 c6 c7:Nat}(h:bZ.K W M [.slice A0 M.f0.length c0,.slice A1 M.f1.length c1,.slice A2 M.f2.length c2,.slice A3 M.f3.length c3,.slice A4 M.f4.length c4,.slice A5 M.f5.length c5,.slice A6 M.f6.length c6,.slice A7 M.f7.length c7]):eE.C W A4 M.f4.length M.f4:=by
 obtain⟨B0,d0,B1,d1,B2,d2,B3,d3,B4,d4,B5,d5,B6,d6,B7,d7,he,l0,g0,l1,g1,l2,g2,l3,g3,l4,g4,-⟩:=aD h
 have e4:A4=B4:=by
  injection he with _ he;injection he with _ he;injection he with _ he;injection he with _ he;injection he with he _;injection he
 rw[e4];exact g4
theorem j7{R:World->Prop}{w:World}{p:GP}{x:fT}{vS vC:Value}(h:aG R w p x vS vC)(hT:dH R p){M:bL}{L:List Int}{S:ig}(hE:kf R p M L S)(Tu:L.length<=1000000)(Tv:M.f4.length<=1000000)(t:Int)(hs:x.s.length+5<=1000000)(hc:x.code.length+5<=1000000):Calls prog 58 #[.pointer (some ⟨p.g,0,none⟩),.int .i64 t] w (uJ R p (.tuple #[]) (Up 1 1 x)):=by
 obtain⟨W0,rfl⟩:=ex w;obtain⟨x0,rfl⟩:=ex x;obtain⟨Du,rfl⟩:=ex vS;obtain⟨Cc,rfl⟩:=ex vC;have cn:=hd h;have HT:=hd hT;clear h hT;obtain⟨w0,A0,c0,A1,c1,A2,c2,A3,c3,A4,c4,A5,c5,A6,c6,A7,c7,AL,cL,AS,cS,AR,cR,iR,Cf,Cg⟩:=hE;have iL:=hd iR;have OY:=hd Cf;have Af:=hd Cg;clear iR Cf Cg;have Gr:=hd hs;have xU:=hd hc;clear hs hc;have y0:=(aa cn.o.1 0).trans (jU _ _ _ _)
 go_enter func58,ntmps58
 go_wp2_with fail
 refine(bK cn.o HT.o 3 (by decide) (by decide)).mono ?_;rintro e W1⟨r1,q1,Dv,Dw,rfl,h1⟩;obtain⟨x1,Bd,Be,rfl,rfl,bE,fP⟩:=Ae h1;clear h1;clear y0;have ada:=hd (show x1.s.length+4<=1000000 from fP.o.ls Gr.o (by decide));have adb:=hd (show x1.code.length+4<=1000000 from fP.o.lc xU.o (by decide));have iK:=hd (And.intro Dv Dw);clear Dv Dw;have K4:=hd Tu;have WK:=hd Tv;clear Tu Tv;by_cases z0:r1=0
 ·subst z0
  go_wp2_with fail
  refine jk 99 (fun d u W=> ∃(k:Nat) (y:fT) (vS vC:Value),d+k=L.length/\u 0= .pointer (some ⟨p.g,0,none⟩)/\u 1= .int .i64 t/\u 4= .int .i64 k/\Hid (aG R W p y vS vC)/\Hid (Up 0 0 x1 y)) (L.length) rfl rfl ⟨0,x1,_,_,rfl,rfl,rfl,rfl,bE,hd ⟨rfl,rfl,rfl⟩⟩ ?_;intro d u W2 l hI hl;obtain⟨k,x2,Bf,yb,hk,h0,h1,h4,bw,ep⟩:=hI;simp only[List.range,List.range.loop,List.map_cons,List.map_nil,h0,h1,h4]at hl;subst hl;clear h0 h1 h4
  all_goals
   have Sj:=hd (show x2.s.length+4<=1000000 from(fP.o.trans ep.o).ls Gr.o (by decide));have Sk:=hd (show x2.code.length+4<=1000000 from(fP.o.trans ep.o).lc xU.o (by decide));by_cases bI:k<L.length
   ·have qd:((k:Int)<(L.length:Int)):=by omega
    have y0:=(aa bw.o.1 0).trans (jU _ _ _ _);have y9:=gy bw.o iL.o 9 8
    go_wp2_with fail
    refine st 14 (fun w'=>w'.cell? ⟨p.g,0,none⟩=some (.pointer (some ⟨p.tb,0,none⟩))/\w'.cell? ⟨p.g,9,none⟩=some (.slice AL L.length cL)) [] ⟨y0,y9⟩ (fun ag=>?_);refine cZ 0 23 1 24 2 25 ?_;refine pu 3 26 ?_;refine tk 4 27 ag ?_;refine cZ 7 30 8 31 9 32 ?_;refine tk 10 33 ag ?_;refine pu 11 34 ?_;refine on 5 (some 28) (fun K hK=>?_);refine ge (bK (bw.o.drewN 1) HT.o 3 (by decide) (by decide)) ?_;rintro e W3⟨r3,q3,Vd,Ve,rfl,h3⟩;obtain⟨x3,cC,gu⟩:=Mf h3;clear h3;obtain⟨kk,hkk⟩: ∃kk:Nat,(kk:Int)=(k:Int)+r3:=⟨k+r3.toNat,by omega⟩;obtain⟨m,Jn⟩:=ex (kk%L.length);have hm:=Nat.mod_lt kk (show 0<L.length by omega);rw[<-Jn]at hm;have e1:wrap64 ((k:Int)+r3)=(kk:Int):=by rw[<-hkk];exact Bc kk (by have:=K4.o;omega)
    have e2:Int.tmod (kk:Int) (L.length:Int)=(m:Int):=by rw[Int.tmod_eq_emod_of_nonneg (by omega),Jn];simp
    have e3:(kk:Int)%(L.length:Int)=(m:Int):=by rw[Jn];simp
    have e4: ¬(L.length:Int)=0:=by omega
    have e5:((L.length:Int)==0)=false:=by simpa using e4
    have e7: ¬L= []:=fun e=>by rw[e]at bI;exact absurd bI (by simp)
    have e6:wrap64 (m:Int)=(m:Int):=Bc m (by have:=K4.o;omega);have gZ:=hd hm;clear hkk Jn hm;refine⟨_,rfl,?_⟩;refine hK.o _ _ ⟨(aa cC.o.1 0).trans (jU _ _ _ _),(gy cC.o iL.o 9 8)⟩ (fun ag=>?_);clear hK K;refine nm ?_;refine cZ 6 29 12 35 13 5 ?_;refine dn ?_;clear y0 y9 e1 e2 e3 e4 e5 e6 e7;have hm:=gZ.o;have hm0:(0:Int)<=(m:Int):=by omega
    have Gk:(m:Int)<(L.length:Int):=by omega
    obtain⟨ad,hA,hc⟩:=Kd.fQ (Af.o _ cC.o.get).2.1 (m:Int) hm0 Gk;subst hA;have y9:=gy cC.o iL.o 9 8;have ade:=hd (show x3.s.length+4<=1000000 from((fP.o.trans ep.o).trans gu.o).ls Gr.o (by decide));have adf:=hd (show x3.code.length+4<=1000000 from((fP.o.trans ep.o).trans gu.o).lc xU.o (by decide));rw[dF]at hc;by_cases he:rd L (m:Int)=t
    ·have GQ:(rd L (m:Int)==t)=true:=by simp[he]
     go_wp2_with fail
     refine(bY cC.o _ _ _ _ (cG (Nat.le_add_right _ 4) adf.o)).mono ?_;rintro e W4⟨rfl,x4,yc,rV,oz,h4⟩;have bP:=hd h4;have gX:=hd (show Up 0 1 x3 x4 from oz);clear h4 oz;have Vb:=hd (show x4.s.length+0<=1000000 from gX.o.ls ade.o (by decide));obtain⟨Lz,JG,Vc⟩:=Kd.ai bP.o.2.2.2.2.2.2.1;subst Vc;have fJ:=(aa bP.o.1 12).trans (jV bP.o.2.1 _ _ _)
     go_wp2_with (first|(at_builtin;(refine Kd.fc (Kd.int .i64) (w0:=W4) 0 rfl (.tmp 53) (.tmp 55) 23 3 (.int .i64 0) 8 rfl underlying23 cQ rfl (dG 0) (dG 7) (Value.slice Lz x4.s.length JG) x4.s t [.int .i64 t] (fun k=>(k≠p.g/\k≠p.tb)/\some k≠rV.ownBlock) (fun k=>((k≠p.g/\k≠p.tb)/\some k≠rV.ownBlock)/\some k≠(Value.slice Lz x4.s.length JG).ownBlock) rfl rfl rfl (fun _ hk=>hk) bP.o.tr bP.o.2.2.2.2.2.2.1 ⟨rfl,rfl,rfl,aU _,fun _ _=>rfl⟩ (Nat.zero_le _) (len8 Vb.o) ?_);intro v9 w9 hR hB hG hat;obtain⟨P9,k9,e9⟩:=Kd.ai hR;generalize (x4.s++ [t]).length=n9 at e9;subst e9;have hgb:=bD bP.o.1 hG bP.o.Ii;have z0:=(aa hgb 0).trans (jU _ _ _ _);have z12:=(aa hgb 12).trans (jV bP.o.2.1 _ _ _);have f12:=ah hgb 12;have HG:=hd hG;have Ac:=hd hat;have ir:=hd hR;clear hG hat hR hB hgb))
     have h9:=aG.types bP.o HG.o Ac.o ir.o;clear fJ z12 z0 f12;generalize w9.setCell ⟨p.g,12,none⟩ (.slice P9 n9 k9)=W5 at h9⊢;generalize Value.slice P9 n9 k9=ye at h9;obtain⟨x5,Ij⟩:=ex (fT.mk (x4.s++ [t]) x4.code x4.left x4.pos);rw[<-Ij]at h9;obtain⟨uW,rfl⟩:=ex rV;have gI:=hd h9;have kI:=hd (show Up 1 0 x4 x5 by subst Ij;exact⟨by simp,rfl,rfl⟩);clear h9 Ij
     go_end0
     exact⟨rfl,_,_,_,((((fP.o.trans ep.o).trans gu.o).trans gX.o).trans kI.o),gI.o⟩
    ·have GQ:(rd L (m:Int)==t)=false:=by simpa using he
     have ew:wrap64 ((k:Int)+1)=((k+1:Nat):Int):=uh k (by have:=K4.o;omega)
     go_wp2_with fail
     exact⟨by first|trivial|rfl,by first|trivial|rfl,⟨d-1,by omega,k+1,x3,_,_,by omega,rfl,rfl,congrArg (Value.int .i64) ew,cC,hd (ep.o.trans gu.o)⟩⟩
   ·have qd: ¬((k:Int)<(L.length:Int)):=by omega
    have y9:=gy bw.o iL.o 9 8
    go_wp2_with fail
    refine(pP bw.o HT.o t Sj.o Sk.o).mono ?_;rintro e W3⟨rfl,y,DZ,D8,hu,h9⟩
    go_wp2_with fail
    go_end0
    exact⟨rfl,y,DZ,D8,(fP.o.trans ep.o).trans hu,h9⟩
 ·have z1:(r1==0)=false:=by simpa using z0
  by_cases z2:r1=1
  ·subst z2
   go_wp2_with fail
   refine jk 99 (fun d u W=> ∃(k:Nat) (y:fT) (vS vC:Value),d+k=M.f4.length/\u 0= .pointer (some ⟨p.g,0,none⟩)/\u 1= .int .i64 t/\u 6= .int .i64 k/\Hid (aG R W p y vS vC)/\Hid (Up 0 0 x1 y)) (M.f4.length) rfl rfl ⟨0,x1,_,_,rfl,rfl,rfl,rfl,bE,hd ⟨rfl,rfl,rfl⟩⟩ ?_;intro d u W2 l hI hl;obtain⟨k,x2,Bf,yb,hk,h0,h1,h4,bw,ep⟩:=hI;simp only[List.range,List.range.loop,List.map_cons,List.map_nil,h0,h1,h4]at hl;subst hl;clear h0 h1 h4
   all_goals
    have Sj:=hd (show x2.s.length+4<=1000000 from(fP.o.trans ep.o).ls Gr.o (by decide));have Sk:=hd (show x2.code.length+4<=1000000 from(fP.o.trans ep.o).lc xU.o (by decide));by_cases bI:k<M.f4.length
    ·have qd:((k:Int)<(M.f4.length:Int)):=by omega
     have Dx:(0:Int)<=(k:Int):=by omega
     have hG:=qG (wH (fun _ _=>ML) (Ce OY.o) (Af.o _ bw.o.get).1) (k:Int) Dx qd;obtain⟨ad,hA,hc,-⟩:=hG;subst hA;rw[dF]at hc;obtain⟨gt,hgt⟩:=ex ((dg M.f4 (k:Int)).f0);rw[<-hgt]at hc;clear hgt;have y5:=gy bw.o iL.o 5 4;by_cases he:gt=t
     ·have GQ:(gt==t)=true:=by simp[he]
      go_wp2_with fail
      refine(bY bw.o _ _ _ _ (cG (Nat.le_add_right _ 4) Sk.o)).mono ?_;rintro e W3⟨rfl,x3,qi,nZ,nu,h3⟩;have cC:=hd h3;have gu:=hd (show Up 0 1 x2 x3 from nu);clear h3 nu;have WB:=hd (show x3.s.length+0<=1000000 from gu.o.ls Sj.o (by decide));obtain⟨Sl,OZ,Vf⟩:=Kd.ai cC.o.2.2.2.2.2.2.1;subst Vf;have fJ:=(aa cC.o.1 12).trans (jV cC.o.2.1 _ _ _)
      go_wp2_with (first|(at_builtin;(refine Kd.fc (Kd.int .i64) (w0:=W3) 0 rfl (.tmp 90) (.tmp 92) 23 3 (.int .i64 0) 8 rfl underlying23 cQ rfl (dG 0) (dG 7) (Value.slice Sl x3.s.length OZ) x3.s t [.int .i64 t] (fun k=>(k≠p.g/\k≠p.tb)/\some k≠nZ.ownBlock) (fun k=>((k≠p.g/\k≠p.tb)/\some k≠nZ.ownBlock)/\some k≠(Value.slice Sl x3.s.length OZ).ownBlock) rfl rfl rfl (fun _ hk=>hk) cC.o.tr cC.o.2.2.2.2.2.2.1 ⟨rfl,rfl,rfl,aU _,fun _ _=>rfl⟩ (Nat.zero_le _) (len8 WB.o) ?_);intro v9 w9 hR hB hG hat;obtain⟨P9,k9,e9⟩:=Kd.ai hR;generalize (x3.s++ [t]).length=n9 at e9;subst e9;have hgb:=bD cC.o.1 hG cC.o.Ii;have z0:=(aa hgb 0).trans (jU _ _ _ _);have z12:=(aa hgb 12).trans (jV cC.o.2.1 _ _ _);have f12:=ah hgb 12;have HG:=hd hG;have Ac:=hd hat;have ir:=hd hR;clear hG hat hR hB hgb))
      have h9:=aG.types cC.o HG.o Ac.o ir.o;clear fJ z12 z0 f12;generalize w9.setCell ⟨p.g,12,none⟩ (.slice P9 n9 k9)=W4 at h9⊢;generalize Value.slice P9 n9 k9=yc at h9;obtain⟨x4,MI⟩:=ex (fT.mk (x3.s++ [t]) x3.code x3.left x3.pos);rw[<-MI]at h9;obtain⟨rV,rfl⟩:=ex nZ;have bP:=hd h9;have gX:=hd (show Up 1 0 x3 x4 by subst MI;exact⟨by simp,rfl,rfl⟩);clear h9 MI
      go_end0
      exact⟨rfl,_,_,_,(((fP.o.trans ep.o).trans gu.o).trans gX.o),bP.o⟩
     ·have GQ:(gt==t)=false:=by simpa using he
      have ew:wrap64 ((k:Int)+1)=((k+1:Nat):Int):=uh k (by have:=WK.o;omega)
      go_wp2_with fail
      exact⟨by first|trivial|rfl,by first|trivial|rfl,⟨d-1,by omega,k+1,x2,_,_,by omega,rfl,rfl,congrArg (Value.int .i64) ew,bw,ep⟩⟩
    ·have qd: ¬((k:Int)<(M.f4.length:Int)):=by omega
     have y5:=gy bw.o iL.o 5 4
     go_wp2_with fail
     refine(pP bw.o HT.o t Sj.o Sk.o).mono ?_;rintro e W3⟨rfl,y,DZ,D8,hu,h9⟩
     go_wp2_with fail
     go_end0
     exact⟨rfl,y,DZ,D8,(fP.o.trans ep.o).trans hu,h9⟩
  ·have z3:(r1==1)=false:=by simpa using z2
   go_wp2_with fail
   refine(pP bE.o HT.o t ada.o adb.o).mono ?_;rintro e W2⟨rfl,y,DZ,D8,hu,h9⟩
   go_wp2_with fail
   go_end0
   exact⟨rfl,y,DZ,D8,fP.o.trans hu,h9⟩
theorem O0(w:World)(a b:Nat): ∃n,(w.drewN a).drewN b=w.drewN n:=⟨a+b,by simp[World.drewN,Nat.add_assoc]⟩
theorem kg(a:Int)(n:Nat)(h:a=n)(hn:n<=4611686018427387904):wrap64 a=(n:Int):=by subst h;exact Bc n hn
theorem aG.YH{R:World->Prop}{w:World}{p:GP}{x:fT}{A:Option Addr}{n c:Nat}{vC:Value}(h:aG R w p x (.slice A n c) vC):n=x.s.length/\n<=c/\bf w A x.s:=Kd.bA h.2.2.2.2.2.2.1
def Vg(n height:Nat)(x:fT)(w:World)(e:Ending)(w':World):Prop:= ∃b,e= .returned (.bool b)/\(b=true->height+n<=x.s.length)/\ ∃n,w'=w.drewN n
theorem JH{R:World->Prop}{w:World}{p:GP}{x:fT}{vS vC:Value}(h:aG R w p x vS vC)(hT:dH R p)(A:Option Addr)(c:Nat)(l:List Int)(hl: ∀W,R W->bf W A l)(height:Nat)(hh:height<=x.s.length)(hs:x.s.length<=1000000)(hn:l.length<=1000000):Calls prog 57 #[.pointer (some ⟨p.g,0,none⟩),.slice A l.length c,.int .i64 height] w (Vg l.length height x w):=by
 obtain⟨W0,rfl⟩:=ex w;obtain⟨x0,rfl⟩:=ex x;obtain⟨Du,rfl⟩:=ex vS;obtain⟨Cc,rfl⟩:=ex vC;have cn:=hd h;have HT:=hd hT;clear h hT;obtain⟨PS,kS,e1⟩:=Kd.ai cn.o.2.2.2.2.2.2.1;subst e1;have xU:=hd hl;have Gr:=hd hs;have BP:=hd hn;clear hl hs hn;have fJ:=(aa cn.o.1 12).trans (jV cn.o.2.1 _ _ _);have w1:wrap64 ((x0.s.length:Int)-(height:Int))=((x0.s.length-height:Nat):Int):=kg _ _ (by omega) (by have:=Gr.o;omega);obtain⟨df,hdf⟩:=ex (x0.s.length-height);rw[<-hdf]at w1;by_cases hc:(df:Int)<(l.length:Int)
 ·have HD:=hd hdf;clear hdf hh
  go_enter func57,ntmps57
  go_wp2_with fail
  go_ret;exact⟨false,rfl,(fun h=>nomatch h),0,rfl⟩
 ·have HD:=hd (show height+l.length<=x0.s.length by omega);clear hdf hh
  go_enter func57,ntmps57
  go_wp2_with fail
  clear fJ w1;refine jk 45 (fun d u W=> ∃(k n:Nat),d+k=l.length/\u 0= .pointer (some ⟨p.g,0,none⟩)/\u 1= .slice A l.length c/\u 7= .int .i64 k/\W=W0.drewN n) l.length rfl rfl ⟨0,0,rfl,rfl,rfl,rfl,rfl⟩ ?_;intro d u W2 q hI hq;obtain⟨k,n,hk,h0,h1,h7,rfl⟩:=hI;simp only[List.range,List.range.loop,List.map_cons,List.map_nil,h0,h1,h7]at hq;subst hq;clear h0 h1 h7;by_cases bI:k<l.length
  ·have qd:((k:Int)<(l.length:Int)):=by omega
   have Dx:(0:Int)<=(k:Int):=by omega
   have HK:=hd (show d-1<d/\d-1+(k+1)=l.length from⟨by omega,by omega⟩);clear hk;obtain⟨D,hD⟩:=ex (x0.s.length-l.length);obtain⟨J,hJ⟩:=ex (D+k);have Vh:(J:Int)<(x0.s.length:Int):=by have:=HD.o;omega
   have hJ0:(0:Int)<=(J:Int):=by omega
   have a2:(x0.s.length:Int)-(l.length:Int)=(D:Int):=by have:=HD.o;omega
   have a3:(D:Int)+(k:Int)=(J:Int):=by omega
   have b2:D<=4611686018427387904:=by have:=Gr.o;omega
   have b3:J<=4611686018427387904:=by have:=Gr.o;omega
   have b4:k<=4611686018427387904:=by have:=BP.o;omega
   have w2:=kg _ _ a2 b2;have w3:=kg _ _ a3 b3;have w4:=Bc J b3;have ew:=uh k b4;clear a2 a3 b2 b3 b4;obtain⟨ad,hA,hc1⟩:=Kd.fQ (xU.o _ cn.o.get) (k:Int) Dx qd;subst hA;rw[dF]at hc1;obtain⟨bd,hB,hc2⟩:=Kd.fQ cn.o.YH.2.2 (J:Int) hJ0 Vh;subst hB;rw[dF]at hc2;obtain⟨v1,FB⟩:=ex (rd l (k:Int));obtain⟨v2,hv2⟩:=ex (rd x0.s (J:Int));rw[<-FB]at hc1;rw[<-hv2]at hc2;have fJ:=(aa cn.o.1 12).trans (jV cn.o.2.1 _ _ _);have HW:=hd ew;clear FB hv2 hD hJ ew;by_cases he:v2=v1
   ·have GQ:(v2 !=v1)=false:=by simp[he]
    clear he
    go_wp2_with fail
    go_quiet (fail)
    go_wp2_with fail
    exact⟨by first|trivial|rfl,by first|trivial|rfl,d-1,HK.o.1,k+1,_,HK.o.2,rfl,rfl,congrArg (Value.int .i64) HW.o,rfl⟩
   ·have GQ:(v2 !=v1)=true:=by simpa using he
    clear he
    go_wp2_with fail
    go_quiet (fail)
    go_wp2_with fail
    go_ret;exact⟨false,rfl,(fun h=>nomatch h),O0 _ _ _⟩
  ·have qd: ¬((k:Int)<(l.length:Int)):=by omega
   go_wp2_with fail
   go_ret;exact⟨true,rfl,fun _=>HD.o,_,rfl⟩
def Nd(n height:Nat)(x y:fT):Prop:=height+n<=y.s.length/\y.s.length<=x.s.length+n/\x.s.length<=y.s.length/\y.code.length<=x.code.length+n/\y.left=x.left
theorem jo{R:World->Prop}{w:World}{p:GP}{x:fT}{vS vC:Value}(h:aG R w p x vS vC)(hT:dH R p){M:bL}{L:List Int}{S:ig}(hE:kf R p M L S)(Tu:L.length<=1000000)(Tv:M.f4.length<=1000000)(A:Option Addr)(c:Nat)(l:List Int)(hl: ∀W,R W->bf W A l)(hn:l.length<=16)(height:Nat)(hh:height<=x.s.length)(hs:x.s.length+24<=1000000)(hc:x.code.length+24<=1000000):Calls prog 108 #[.pointer (some ⟨p.g,0,none⟩),.slice A l.length c,.int .i64 height] w (uJ R p (.tuple #[]) (Nd l.length height x)):=by
 obtain⟨W0,rfl⟩:=ex w;obtain⟨x0,rfl⟩:=ex x;obtain⟨Du,rfl⟩:=ex vS;obtain⟨Cc,rfl⟩:=ex vC;have cn:=hd h;have HT:=hd hT;clear h hT;have HL:=hd hl;have HE:=hd hE;have Gr:=hd hs;have xU:=hd hc;have K4:=hd Tu;have WK:=hd Tv;have HN:=hd hn;have HH:=hd hh;clear hl hE hs hc Tu Tv hn hh
 go_enter func108,ntmps108
 go_wp2_with fail
 refine(JH cn.o HT.o A c l HL.o height HH.o (by have:=Gr.o;omega) (by have:=HN.o;omega)).mono ?_;rintro e w'⟨b,rfl,hb,n,rfl⟩;have cE:=hd hb;clear hb;cases b with
 |true=>
  go_wp2_with fail
  go_end0
  exact⟨rfl,x0,_,_,⟨cE.o (by trivial),by omega,by omega,by omega,rfl⟩,cn.o.drewN n⟩
 |false=>
  go_wp2_with fail
  refine jk 23 (fun d u W=> ∃(k:Nat) (y:fT) (vS vC:Value),d+k=l.length/\u 0= .pointer (some ⟨p.g,0,none⟩)/\u 1= .slice A l.length c/\u 6= .int .i64 k/\Hid (aG R W p y vS vC)/\Hid (Up k k x0 y)) l.length rfl rfl ⟨0,x0,_,_,rfl,rfl,rfl,rfl,hd (cn.o.drewN n),hd ⟨rfl,rfl,rfl⟩⟩ ?_;intro d u W2 q hI hq;obtain⟨k,x2,Bf,yb,hk,h0,h1,h6,bw,ep⟩:=hI;simp only[List.range,List.range.loop,List.map_cons,List.map_nil,h0,h1,h6]at hq;subst hq;clear h0 h1 h6;by_cases bI:k<l.length
  ·have qd:((k:Int)<(l.length:Int)):=by omega
   have Dx:(0:Int)<=(k:Int):=by omega
   have HK:=hd (show d-1<d/\d-1+(k+1)=l.length from⟨by omega,by omega⟩);clear hk;have ew:=hd (uh k (by have:=HN.o;omega));obtain⟨ad,hA,hc1⟩:=Kd.fQ (HL.o _ bw.o.get) (k:Int) Dx qd;subst hA;rw[dF]at hc1;have q1:=hd (show x2.s.length+5<=1000000 by have u:=ep.o;have:=Gr.o;have:=HN.o;unfold Up at u;omega);have q2:=hd (show x2.code.length+5<=1000000 by have u:=ep.o;have:=xU.o;have:=HN.o;unfold Up at u;omega)
   go_wp2_with fail
   refine(j7 bw.o HT.o HE.o K4.o WK.o (rd l (k:Int)) q1.o q2.o).mono ?_;rintro e W3⟨rfl,x3,qi,nZ,hu,h3⟩;have ew:=ew.o
   go_wp2_with fail
   exact⟨by first|trivial|rfl,by first|trivial|rfl,d-1,HK.o.1,k+1,x3,qi,nZ,HK.o.2,rfl,rfl,congrArg (Value.int .i64) ew,hd h3,hd (ep.o.trans hu)⟩
  ·have qd: ¬((k:Int)<(l.length:Int)):=by omega
   have HK:=hd (show k=l.length by omega);clear hk
   go_wp2_with fail
   go_end0
   exact⟨rfl,x2,_,_,(by have u:=ep.o;have:=HK.o;have:=HH.o;unfold Up at u;exact⟨by omega,by omega,by omega,by omega,u.2.2⟩),bw.o⟩
theorem uK{R:World->Prop}{w:World}{p:GP}{x:fT}{vS vC:Value}(h:aG R w p x vS vC)(hT:dH R p)(hs:x.s.length+4<=1000000)(hc:x.code.length+4<=1000000):Calls prog 168 #[.pointer (some ⟨p.g,0,none⟩)] w (uJ R p (.tuple #[]) (Up 1 1 x)):=by
 obtain⟨W0,rfl⟩:=ex w;obtain⟨x0,rfl⟩:=ex x;obtain⟨Du,rfl⟩:=ex vS;obtain⟨Cc,rfl⟩:=ex vC;have cn:=hd h;have HT:=hd hT;clear h hT;have Gr:=hd hs;have xU:=hd hc;clear hs hc;have y0:=(aa cn.o.1 0).trans (jU _ _ _ _)
 go_enter func168,ntmps168
 go_wp2_with fail
 refine(bK cn.o HT.o 1100 (by decide) (by decide)).mono ?_;rintro e W1⟨r1,q1,Dv,Dw,rfl,h1⟩;obtain⟨x1,Bd,Be,rfl,rfl,bE,fP⟩:=Ae h1;clear h1;clear y0
 go_wp2_with fail
 refine(bY bE.o _ _ _ _ (fP.o.lc xU.o (by decide):x1.code.length+0<=1000000)).mono ?_;rintro e W2⟨rfl,x2,Bf,yb,Qa,h2⟩;have bw:=hd h2;have ep:=hd (show Up 0 1 x1 x2 from Qa);clear h2 Qa;have HL2:=hd (show x2.s.length+0<=1000000 from(fP.o.trans ep.o).ls Gr.o (by decide));obtain⟨PS2,kS2,YI⟩:=Kd.ai bw.o.2.2.2.2.2.2.1;subst YI;have fJ:=(aa bw.o.1 12).trans (jV bw.o.2.1 _ _ _)
 go_wp2_with (first|(at_builtin;(refine Kd.fc (Kd.int .i64) (w0:=W2) 0 rfl (.tmp 15) (.tmp 16) 23 3 (.int .i64 0) 8 rfl underlying23 cQ rfl (dG 0) (dG 7) (Value.slice PS2 x2.s.length kS2) x2.s 127 [.int .i64 127] (fun k=>(k≠p.g/\k≠p.tb)/\some k≠yb.ownBlock) (fun k=>((k≠p.g/\k≠p.tb)/\some k≠yb.ownBlock)/\some k≠(Value.slice PS2 x2.s.length kS2).ownBlock) rfl rfl rfl (fun _ hk=>hk) bw.o.tr bw.o.2.2.2.2.2.2.1 ⟨rfl,rfl,rfl,aU _,fun _ _=>rfl⟩ (Nat.zero_le _) (len8 HL2.o) ?_);intro v9 w9 hR hB hG hat;obtain⟨P9,k9,e9⟩:=Kd.ai hR;generalize (x2.s++ [127]).length=n9 at e9;subst e9;have hgb:=bD bw.o.1 hG bw.o.Ii;have z0:=(aa hgb 0).trans (jU _ _ _ _);have z12:=(aa hgb 12).trans (jV bw.o.2.1 _ _ _);have f12:=ah hgb 12;have HG:=hd hG;have Ac:=hd hat;have ir:=hd hR;clear hG hat hR hB hgb))
 have h9:=aG.types bw.o HG.o Ac.o ir.o;clear fJ z12 z0 f12;generalize w9.setCell ⟨p.g,12,none⟩ (.slice P9 n9 k9)=W3 at h9⊢;generalize Value.slice P9 n9 k9=qi at h9;obtain⟨x3,hx3⟩:=ex (fT.mk (x2.s++ [127]) x2.code x2.left x2.pos);rw[<-hx3]at h9;obtain⟨nZ,rfl⟩:=ex yb;have cC:=hd h9;have gu:=hd (show Up 1 0 x2 x3 by subst hx3;exact⟨by simp,rfl,rfl⟩);clear h9 hx3
 go_end0
 exact⟨rfl,_,_,_,((fP.o.trans ep.o).trans gu.o),cC.o⟩
theorem aG.uL{R:World->Prop}{w w1:World}{p:GP}{x:fT}{vS vC v1:Value}{l:List Int}(h:aG R w p x vS vC)(hb:Below w.heap.size w w1)(hR:cO w1 w.heap.size v1 l):aG R (w1.setCell ⟨p.g,12,none⟩ v1) p ⟨l,x.code,x.left,x.pos⟩ v1 vC:=by
 have hh:=h.lt;have hn: ∀k,v1.ownBlock=some k->w.heap.size<=k:=Kd.iW hR;obtain⟨a,b,c,d,e,f,g,i,j⟩:=h;have a2:=bC ((hb.block _ (aj a)).trans a) 12 v1;rw[JE b]at a2;have hR2:bl w1 0 (fun k=>(k≠p.g/\k≠p.tb)/\some k≠vC.ownBlock) v1 l:=Kd.eH (Kd.bQ (Kd.fW hR) (fun k hk=>⟨⟨by have:=hk.2.1;omega,by have:=hk.2.1;omega⟩,fun e=>by have:=hh.2.2.2 k e.symm;have:=hk.2.1;omega⟩)) (Nat.zero_le _);have hC2:zM w1 (fun k=>((k≠p.g/\k≠p.tb)/\ ¬p.bad k)/\some k≠v1.ownBlock) vC x.code:=Kd.cM (Kd.bQ (Kd.fW i) (fun k hk=>⟨hk.1.1,fun e=>by have:=hn k e.symm;have:=hk.2.2.1;omega⟩)) hb;refine⟨a2,b,c,bR ((hb.block _ (aj d)).trans d) (p:=⟨p.g,12,none⟩) (fun e=>c e.symm) _,⟨e.1,fun k hk=>by have:=e.2 k hk;have:=hb.size;simp only[World.setCell];simp;omega⟩,f,Kd.dr hR2 (fun k hk=>hk.1.1) _,Kd.dr hC2 (fun k hk=>hk.1.1.1) _,?_⟩;refine j.then (((jd.refl _ w).below hb).set (.inl rfl) _) (fun k hk=>?_)
 rcases hk with hk|hk|hk|hk
 ·exact .inl (.inl hk)
 ·exact .inl (.inr (.inl hk))
 ·exact .inr (hn k hk.symm)
 ·exact .inl (.inr (.inr (.inr hk)))
theorem aG.gC{R:World->Prop}{w:World}{p:GP}{x:fT}{A:Option Addr}{c:Nat}{vC:Value}(h:aG R w p x (.slice A x.s.length c) vC)(m:Nat)(hm:m<=x.s.length):m<=c/\(Kd.int .i64).C w A m (x.s.take m):=by
 have q:=Kd.bA (Kd.nR (m:=m) h.2.2.2.2.2.2.1 hm);have e:(x.s.take m).length=m:=by simp[hm]
 rw[e]at q;exact⟨q.2.1,q.2.2⟩
def Sw(n m:Nat)(x y:fT):Prop:=y.s.length=x.s.length-n+m/\y.code.length=x.code.length/\y.left=x.left
theorem lQ{R:World->Prop}{w:World}{p:GP}{x:fT}{vS vC:Value}(h:aG R w p x vS vC)(hT:dH R p)(A1:Option Addr)(n1 c1:Nat)(pZ:n1<=x.s.length)(A2:Option Addr)(c2:Nat)(l2:List Int)(hl2: ∀W,R W->bf W A2 l2)(hn:l2.length<=1000000)(hs:x.s.length<=1000000):Calls prog 109 #[.pointer (some ⟨p.g,0,none⟩),.slice A1 n1 c1,.slice A2 l2.length c2] w (uJ R p (.tuple #[]) (Sw n1 l2.length x)):=by
 obtain⟨W0,rfl⟩:=ex w;obtain⟨x0,rfl⟩:=ex x;obtain⟨Du,rfl⟩:=ex vS;obtain⟨Cc,rfl⟩:=ex vC;have cn:=hd h;have HT:=hd hT;clear h hT;obtain⟨PS,kS,e1⟩:=Kd.ai cn.o.2.2.2.2.2.2.1;subst e1;obtain⟨D,hD⟩:=ex (x0.s.length-n1);have hDD:=hd (show D<=x0.s.length from by omega);have a1:(x0.s.length:Int)-(n1:Int)=(D:Int):=by omega
 have b1:D<=4611686018427387904:=by omega
 have d0:(0:Int)<=(D:Int):=by omega
 have d1:(D:Int)<=(kS:Int):=by have:=(cn.o.gC D hDD.o).1;omega
 have HL2:=hd hl2;have sB:=hd (show(([]:List Int).length+D)*8<=140737488355328 by simp;omega);have sD:=hd (show(([]++x0.s.take D:List Int).length+l2.length)*8<=140737488355328 by simp;omega);have HD:=hd hD;have fJ:=(aa cn.o.1 12).trans (jV cn.o.2.1 _ _ _);have w1:=kg _ _ a1 b1;clear a1 b1 hl2 hs hn hD pZ
 go_enter func109,ntmps109
 go_wp2_with fail
 refine st 21 (fun w'=>w'.cell? ⟨p.g,12,none⟩=some (.slice PS x0.s.length kS)) [20] fJ (fun ag=>?_);refine cZ 0 6 2 8 3 9 ?_;refine pu 4 10 ?_;refine tk 5 11 ag ?_;refine cZ 6 12 7 13 8 14 ?_;refine tk 9 15 ag ?_;refine cZ 10 16 11 17 12 18 ?_;refine cZ 13 19 14 20 16 22 ?_;refine on 1 (some 7) (fun K hK=>?_);rw[if_pos (by rfl)]
 go_simp
 refine hK.o _ _ (ak ag) (fun ag=>?_);clear hK K;refine on 15 (some 21) (fun K hK=>?_);refine Kd.cr (Kd.int .i64) (w0:=W0.drew) (W:=(W0.drew.alloc (.cells #[] 3))) W0.drew.heap.size (by rfl) (.tmp 7) (.tmp 20) 23 3 (.int .i64 0) 8 (by rfl) underlying23 cQ rfl (by decide) (by decide) (.slice (some ⟨W0.drew.heap.size,0,none⟩) 0 0) [] (x0.s.take D) PS D kS (fun _=>True) (fun _=>False) (by rfl) (by rfl) (dW (xs:= []) (alloc_at rfl) (aU _) (fN (by simp))) (Kd.aS (Kd.eL (cn.o.gC D hDD.o).2) _) (fun _ _ h=>h) (fun _ h=>h.elim) (fun _ _=>trivial) (af (ay _ _) _) (by simp) sB.o ?_;intro v9 u1 hR hB hG hat;obtain⟨P9,k9,e9⟩:=Kd.ai hR;generalize ([]++x0.s.take D:List Int).length=n9 at e9;subst e9;have iK:=hd hR;have bE:=hd hB;clear hR hB hG hat;refine hK.o _ _ ((bE.o.cell (aR _ _ fJ)).trans fJ) (fun ag=>?_);clear hK K;refine nm ?_;refine on 17 (some 23) (fun K hK=>?_);refine Kd.cr (Kd.int .i64) (w0:=W0.drew) (W:=u1) W0.drew.heap.size (by rfl) (.tmp 21) (.tmp 22) 23 3 (.int .i64 0) 8 (by rfl) underlying23 cQ rfl (by decide) (by decide) (.slice P9 n9 k9) ([]++x0.s.take D) l2 A2 l2.length c2 (fun _=>True) (fun _=>False) (by rfl) (by rfl) iK.o (HL2.o _ ((cn.o.drewN 1).below bE.o).get) (fun _ _ h=>h) (fun _ h=>h.elim) (fun _ _=>trivial) bE.o bE.o.size sD.o ?_;intro v8 u2 hR hB hG hat;obtain⟨P8,k8,e8⟩:=Kd.ai hR;generalize ([]++x0.s.take D++l2:List Int).length=n8 at e8;subst e8;have ia:=hd hR;have bw:=hd hB;clear hR hB hG hat;refine hK.o _ _ ((bw.o.cell (aR _ _ fJ)).trans fJ) (fun ag=>?_);clear hK K;refine nm ?_;have z12:=(bw.o.cell (aR _ _ fJ)).trans fJ;have f12:=ah ((bw.o.block _ (aj cn.o.1)).trans cn.o.1) 12;refine pu2 18 24 19 25 ?_;refine la 20 ?_;refine dn ?_
 go_wp2_with fail
 go_end0
 exact⟨rfl,⟨[]++x0.s.take D++l2,x0.code,x0.left,x0.pos⟩,_,_,⟨by have:=HD.o;have:=hDD.o;simp only[List.nil_append,List.length_append,List.length_take];omega,rfl,rfl⟩,aG.uL (cn.o.drewN 1) bw.o ia.o⟩
def Sh(n height:Nat)(x y:fT):Prop:=y.s.length=height+n/\y.code.length+y.s.length<=x.code.length+x.s.length+2*n/\y.left=x.left
def Dn(x y:fT):Prop:=y.code.length+y.s.length=x.code.length+x.s.length/\y.s.length<=x.s.length/\y.left=x.left
theorem rW{R:World->Prop}{w:World}{p:GP}{x:fT}{vS vC:Value}(h:aG R w p x vS vC)(hT:dH R p){M:bL}{L:List Int}{S:ig}(hE:kf R p M L S)(Tu:L.length<=1000000)(Tv:M.f4.length<=1000000)(A:Option Addr)(c:Nat)(l:List Int)(hl: ∀W,R W->bf W A l)(hn:l.length<=16)(height:Nat)(hh:height<=x.s.length)(hs:x.s.length+x.code.length+60<=1000000):Calls prog 34 #[.pointer (some ⟨p.g,0,none⟩),.slice A l.length c,.int .i64 height] w (uJ R p (.tuple #[]) (Sh l.length height x)):=by
 obtain⟨W0,rfl⟩:=ex w;obtain⟨x0,rfl⟩:=ex x;obtain⟨Du,rfl⟩:=ex vS;obtain⟨Cc,rfl⟩:=ex vC;have cn:=hd h;have HT:=hd hT;clear h hT;have HL:=hd hl;have HE:=hd hE;have HS:=hd hs;have K4:=hd Tu;have WK:=hd Tv;have HN:=hd hn;have HH:=hd hh;clear hl hE hs Tu Tv hn hh;obtain⟨PS,kS,e1⟩:=Kd.ai cn.o.2.2.2.2.2.2.1;subst e1;obtain⟨df,hdf⟩:=ex (x0.s.length-height);have a1:(x0.s.length:Int)-(height:Int)=(df:Int):=by have:=HH.o;omega
 have b1:df<=4611686018427387904:=by have:=HS.o;omega
 have fJ:=(aa cn.o.1 12).trans (jV cn.o.2.1 _ _ _);have HD:=hd (show x0.s.length=height+df by have:=HH.o;omega);by_cases hq:df=l.length
 ·have q1:((df:Int)==(l.length:Int))=true:=by simp[hq]
  have HQ:=hd hq;clear hq hdf;have w1:=kg _ _ a1 b1;clear a1 b1
  go_enter func34,ntmps34
  go_wp2_with fail
  refine(JH cn.o HT.o A c l HL.o height HH.o (by have:=HS.o;omega) (by have:=HN.o;omega)).mono ?_;rintro e w'⟨b,rfl,hb,n,rfl⟩;clear hb;cases b with
  |true=>
   go_wp2_with fail
   go_end0
   exact⟨rfl,x0,_,_,⟨by have:=HD.o;have:=HQ.o;omega,by omega,rfl⟩,cn.o.drewN n⟩
  |false=>
   clear fJ w1 q1;have bE:=hd (cn.o.drewN n);have bE:=hd (cn.o.drewN n);generalize W0.drewN n=W1 at bE⊢
   go_wp2_with fail
   refine jk 59 (fun d u W=> ∃(y:fT) (vS vC:Value),y.s.length=height+d/\u 0= .pointer (some ⟨p.g,0,none⟩)/\u 1= .slice A l.length c/\u 2= .int .i64 height/\Hid (aG R W p y vS vC)/\Hid (Dn x0 y)) df rfl rfl ⟨x0,_,_,HD.o,rfl,rfl,rfl,bE,hd ⟨rfl,aU _,rfl⟩⟩ ?_;intro d u W2 q hI hq;obtain⟨x2,Bf,yb,hk,h0,h1,h2,bw,ep⟩:=hI;simp only[List.range,List.range.loop,List.map_cons,List.map_nil,h0,h1,h2]at hq;subst hq;clear h0 h1 h2;obtain⟨PS2,kS2,YI⟩:=Kd.ai bw.o.2.2.2.2.2.2.1;subst YI;have fJ:=(aa bw.o.1 12).trans (jV bw.o.2.1 _ _ _);by_cases bI:0<d
   ·have hgt:(x2.s.length:Int)>(height:Int):=by omega
    have HK:=hd hk;have Sm:=hd bI;clear hk bI
    go_wp2_with fail
    clear fJ;refine(zO bw.o 26 0 0 0 (by have u:=ep.o;have:=HS.o;unfold Dn at u;omega)).mono ?_;rintro e W3⟨rfl,x3,qi,nZ,rfl,h3⟩;have cC:=hd h3;clear h3;obtain⟨x3,hx3⟩:=ex (fT.mk x2.s (x2.code++ [⟨26,0,0,0,[]⟩]) x2.left x2.pos);rw[<-hx3]at cC;have gu:=hd (show x3.s.length=x2.s.length/\x3.code.length=x2.code.length+1/\x3.left=x2.left by subst hx3;exact⟨rfl,by simp,rfl⟩);clear hx3;obtain⟨Sl,OZ,Vf⟩:=Kd.ai cC.o.2.2.2.2.2.2.1;subst Vf;have fJ:=(aa cC.o.1 12).trans (jV cC.o.2.1 _ _ _);obtain⟨J,hJ⟩:=ex (x3.s.length-1);have a2:(x3.s.length:Int)-1=(J:Int):=by have:=gu.o;have:=HK.o;have:=Sm.o;omega
    have b2:J<=4611686018427387904:=by have:=gu.o;have u:=ep.o;have:=HS.o;unfold Dn at u;omega
    have c0:(0:Int)<=(J:Int):=by omega
    have vV:=hd (show J<=x3.s.length by omega);have c1:(J:Int)<=(OZ:Int):=by have:=(cC.o.gC J vV.o).1;omega
    have f12:=ah cC.o.1 12;have HJ:=hd hJ;clear hJ;have w2:=kg _ _ a2 b2;clear a2 b2
    go_wp2_with fail
    refine st 15 (fun w'=>w'.cell? ⟨p.g,12,none⟩=some (.slice Sl x3.s.length OZ)) [14] fJ (fun ag=>?_);refine cZ 0 33 1 34 2 35 ?_;refine pu 3 36 ?_;refine tk 4 37 ag ?_;refine cZ 5 38 6 39 7 40 ?_;refine tk 8 41 ag ?_;refine cZ 9 42 10 43 11 44 ?_;refine pu2 12 45 13 46 ?_;refine la 14 ?_;refine dn ?_;clear fJ w2;have h4:=aG.cut (cC.o.drewN 1) J vV.o
    go_wp2_with fail
    exact⟨by first|trivial|rfl,by first|trivial|rfl,d-1,by have:=Sm.o;omega,_,_,_,(by have:=gu.o;have:=HK.o;have:=HJ.o;have:=vV.o;have:=Sm.o;show(x3.s.take J).length=_;simp only[List.length_take];omega),rfl,rfl,rfl,hd h4,hd (by have:=gu.o;have u:=ep.o;have:=HK.o;have:=HJ.o;have:=Sm.o;unfold Dn at *;refine⟨?_,?_,?_⟩;(show x3.code.length+(x3.s.take J).length=_;simp only[List.length_take];omega);(show(x3.s.take J).length<=_;simp only[List.length_take];omega);(show x3.left=_;omega))⟩
   ·have hgt: ¬(x2.s.length:Int)>(height:Int):=by omega
    have HK:=hd (show x2.s.length=height by omega);clear hk bI
    go_wp2_with fail
    clear fJ hgt;refine jk 59 (fun d u W=> ∃(k:Nat) (y:fT) (vS vC:Value),d+k=l.length/\u 0= .pointer (some ⟨p.g,0,none⟩)/\u 1= .slice A l.length c/\u 6= .int .i64 k/\Hid (aG R W p y vS vC)/\Hid (Up k k x2 y)) l.length rfl rfl ⟨0,x2,_,_,rfl,rfl,rfl,rfl,bw,hd ⟨rfl,rfl,rfl⟩⟩ ?_;intro d3 u3 W3 q hI hq;obtain⟨k,x3,qi,nZ,hk,h0,h1,h6,cC,gu⟩:=hI;simp only[List.range,List.range.loop,List.map_cons,List.map_nil,h0,h1,h6]at hq;subst hq;clear h0 h1 h6;by_cases bI:k<l.length
    ·have qd:((k:Int)<(l.length:Int)):=by omega
     have Dx:(0:Int)<=(k:Int):=by omega
     have HM:=hd (show d3-1<d3/\d3-1+(k+1)=l.length from⟨by omega,by omega⟩);clear hk;have ew:=hd (uh k (by have:=HN.o;omega));obtain⟨ad,hA,hc1⟩:=Kd.fQ (HL.o _ cC.o.get) (k:Int) Dx qd;subst hA;rw[dF]at hc1;have q1:=hd (show x3.s.length+5<=1000000 by have u:=gu.o;have v:=ep.o;have:=HS.o;have:=HN.o;unfold Up at u;unfold Dn at v;omega);have q2:=hd (show x3.code.length+5<=1000000 by have u:=gu.o;have v:=ep.o;have:=HS.o;have:=HN.o;unfold Up at u;unfold Dn at v;omega)
     go_wp2_with fail
     refine(j7 cC.o HT.o HE.o K4.o WK.o (rd l (k:Int)) q1.o q2.o).mono ?_;rintro e W4⟨rfl,x4,yc,rV,hu,h4⟩;have ew:=ew.o
     go_wp2_with fail
     exact⟨by first|trivial|rfl,by first|trivial|rfl,d3-1,HM.o.1,k+1,x4,yc,rV,HM.o.2,rfl,rfl,congrArg (Value.int .i64) ew,hd h4,hd (gu.o.trans hu)⟩
    ·have qd: ¬((k:Int)<(l.length:Int)):=by omega
     have HM:=hd (show k=l.length by omega);clear hk
     go_wp2_with fail
     go_end0
     exact⟨rfl,x3,_,_,(by have u:=gu.o;have v:=ep.o;have:=HK.o;have:=HM.o;unfold Up at u;unfold Dn at v;exact⟨by omega,by omega,by omega⟩),cC.o⟩
 ·have q1:((df:Int)==(l.length:Int))=false:=by simp;omega
  have HQ:=hd hq;clear hq hdf;have w1:=kg _ _ a1 b1;clear a1 b1
  go_enter func34,ntmps34
  go_wp2_with fail
  clear fJ w1 q1;have bE:=cn;refine jk 59 (fun d u W=> ∃(y:fT) (vS vC:Value),y.s.length=height+d/\u 0= .pointer (some ⟨p.g,0,none⟩)/\u 1= .slice A l.length c/\u 2= .int .i64 height/\Hid (aG R W p y vS vC)/\Hid (Dn x0 y)) df rfl rfl ⟨x0,_,_,HD.o,rfl,rfl,rfl,bE,hd ⟨rfl,aU _,rfl⟩⟩ ?_;intro d u W2 q hI hq;obtain⟨x2,Bf,yb,hk,h0,h1,h2,bw,ep⟩:=hI;simp only[List.range,List.range.loop,List.map_cons,List.map_nil,h0,h1,h2]at hq;subst hq;clear h0 h1 h2;obtain⟨PS2,kS2,YI⟩:=Kd.ai bw.o.2.2.2.2.2.2.1;subst YI;have fJ:=(aa bw.o.1 12).trans (jV bw.o.2.1 _ _ _);by_cases bI:0<d
  ·have hgt:(x2.s.length:Int)>(height:Int):=by omega
   have HK:=hd hk;have Sm:=hd bI;clear hk bI
   go_wp2_with fail
   clear fJ;refine(zO bw.o 26 0 0 0 (by have u:=ep.o;have:=HS.o;unfold Dn at u;omega)).mono ?_;rintro e W3⟨rfl,x3,qi,nZ,rfl,h3⟩;have cC:=hd h3;clear h3;obtain⟨x3,hx3⟩:=ex (fT.mk x2.s (x2.code++ [⟨26,0,0,0,[]⟩]) x2.left x2.pos);rw[<-hx3]at cC;have gu:=hd (show x3.s.length=x2.s.length/\x3.code.length=x2.code.length+1/\x3.left=x2.left by subst hx3;exact⟨rfl,by simp,rfl⟩);clear hx3;obtain⟨Sl,OZ,Vf⟩:=Kd.ai cC.o.2.2.2.2.2.2.1;subst Vf;have fJ:=(aa cC.o.1 12).trans (jV cC.o.2.1 _ _ _);obtain⟨J,hJ⟩:=ex (x3.s.length-1);have a2:(x3.s.length:Int)-1=(J:Int):=by have:=gu.o;have:=HK.o;have:=Sm.o;omega
   have b2:J<=4611686018427387904:=by have:=gu.o;have u:=ep.o;have:=HS.o;unfold Dn at u;omega
   have c0:(0:Int)<=(J:Int):=by omega
   have vV:=hd (show J<=x3.s.length by omega);have c1:(J:Int)<=(OZ:Int):=by have:=(cC.o.gC J vV.o).1;omega
   have f12:=ah cC.o.1 12;have HJ:=hd hJ;clear hJ;have w2:=kg _ _ a2 b2;clear a2 b2
   go_wp2_with fail
   refine st 15 (fun w'=>w'.cell? ⟨p.g,12,none⟩=some (.slice Sl x3.s.length OZ)) [14] fJ (fun ag=>?_);refine cZ 0 33 1 34 2 35 ?_;refine pu 3 36 ?_;refine tk 4 37 ag ?_;refine cZ 5 38 6 39 7 40 ?_;refine tk 8 41 ag ?_;refine cZ 9 42 10 43 11 44 ?_;refine pu2 12 45 13 46 ?_;refine la 14 ?_;refine dn ?_;clear fJ w2;have h4:=aG.cut (cC.o.drewN 1) J vV.o
   go_wp2_with fail
   exact⟨by first|trivial|rfl,by first|trivial|rfl,d-1,by have:=Sm.o;omega,_,_,_,(by have:=gu.o;have:=HK.o;have:=HJ.o;have:=vV.o;have:=Sm.o;show(x3.s.take J).length=_;simp only[List.length_take];omega),rfl,rfl,rfl,hd h4,hd (by have:=gu.o;have u:=ep.o;have:=HK.o;have:=HJ.o;have:=Sm.o;unfold Dn at *;refine⟨?_,?_,?_⟩;(show x3.code.length+(x3.s.take J).length=_;simp only[List.length_take];omega);(show(x3.s.take J).length<=_;simp only[List.length_take];omega);(show x3.left=_;omega))⟩
  ·have hgt: ¬(x2.s.length:Int)>(height:Int):=by omega
   have HK:=hd (show x2.s.length=height by omega);clear hk bI
   go_wp2_with fail
   clear fJ hgt;refine jk 59 (fun d u W=> ∃(k:Nat) (y:fT) (vS vC:Value),d+k=l.length/\u 0= .pointer (some ⟨p.g,0,none⟩)/\u 1= .slice A l.length c/\u 6= .int .i64 k/\Hid (aG R W p y vS vC)/\Hid (Up k k x2 y)) l.length rfl rfl ⟨0,x2,_,_,rfl,rfl,rfl,rfl,bw,hd ⟨rfl,rfl,rfl⟩⟩ ?_;intro d3 u3 W3 q hI hq;obtain⟨k,x3,qi,nZ,hk,h0,h1,h6,cC,gu⟩:=hI;simp only[List.range,List.range.loop,List.map_cons,List.map_nil,h0,h1,h6]at hq;subst hq;clear h0 h1 h6;by_cases bI:k<l.length
   ·have qd:((k:Int)<(l.length:Int)):=by omega
    have Dx:(0:Int)<=(k:Int):=by omega
    have HM:=hd (show d3-1<d3/\d3-1+(k+1)=l.length from⟨by omega,by omega⟩);clear hk;have ew:=hd (uh k (by have:=HN.o;omega));obtain⟨ad,hA,hc1⟩:=Kd.fQ (HL.o _ cC.o.get) (k:Int) Dx qd;subst hA;rw[dF]at hc1;have q1:=hd (show x3.s.length+5<=1000000 by have u:=gu.o;have v:=ep.o;have:=HS.o;have:=HN.o;unfold Up at u;unfold Dn at v;omega);have q2:=hd (show x3.code.length+5<=1000000 by have u:=gu.o;have v:=ep.o;have:=HS.o;have:=HN.o;unfold Up at u;unfold Dn at v;omega)
    go_wp2_with fail
    refine(j7 cC.o HT.o HE.o K4.o WK.o (rd l (k:Int)) q1.o q2.o).mono ?_;rintro e W4⟨rfl,x4,yc,rV,hu,h4⟩;have ew:=ew.o
    go_wp2_with fail
    exact⟨by first|trivial|rfl,by first|trivial|rfl,d3-1,HM.o.1,k+1,x4,yc,rV,HM.o.2,rfl,rfl,congrArg (Value.int .i64) ew,hd h4,hd (gu.o.trans hu)⟩
   ·have qd: ¬((k:Int)<(l.length:Int)):=by omega
    have HM:=hd (show k=l.length by omega);clear hk
    go_wp2_with fail
    go_end0
    exact⟨rfl,x3,_,_,(by have u:=gu.o;have v:=ep.o;have:=HK.o;have:=HM.o;unfold Up at u;unfold Dn at v;exact⟨by omega,by omega,by omega⟩),cC.o⟩
def On(n height:Nat)(x y:fT):Prop:=height<=y.s.length/\y.code.length+y.s.length<=x.code.length+x.s.length+n/\y.left=x.left
def lR(R:World->Prop)(p:GP)(n:Nat):Prop:=
 0<n/\n<=7/\ ∃(P:Addr) (c:Nat) (Bs:Nat->Option Addr) (ds:Nat->Nat) (ls:Nat->List Int),p.vL= .slice (some P) n (n+c)/\(∀j,(ls j).length<=8)/\
  ∀W,R W-> ∀j,j<n->W.cell? (P.add j)=some (.slice (Bs j) (ls j).length (ds j))/\bf W (Bs j) (ls j)
structure jq(M:bL)(L:List Int)(S:ig):Prop where
 hL:L.length<=1000
 hG:3<=M.f4.length
 Bg:M.f4.length<=1000
 h1:M.f1.length<=1000
 h2:M.f2.length<=1000
 h12:0<M.f1.length+M.f2.length
 h3:M.f3.length<=1000
 h6:M.f6.length<=1000
 Ad:M.f3.length=0\/0<M.f6.length
 h0:M.f0.length<=1000
 ht: ∀i:Int,(cD M.f0 i).f0.length<=8/\(cD M.f0 i).f1.length<=8
 hS0:S.f0.length<=8
 hS1:S.f1.length<=8
theorem zP{w:World}{base:Nat}{O:Nat->Prop}{A:Option Addr}{n c:Nat}{xs:List Int}(h:cO w base (.slice A n c) xs)(hO: ∀k,(Value.slice A n c).ownBlock=some k-> ¬O k):Fz w O (fun W=>bf W A xs):=fun W hW=>by
 have hl:=Kd.gY h;have q:bl W base (fun k=>some k=(Value.slice A n c).ownBlock) (.slice A n c) xs:=Kd.jN (Kd.rL rfl h) (fun k hk=>hW.block k (hl k hk.symm) (hO k hk.symm));exact(Kd.bA q).2.2
theorem rA{R:World->Prop}{w0 w w':World}{p:GP}{x:fT}{vS vC v:Value}{xs:List Int}(h:aG R w p x vS vC)(hb:Below w.heap.size w w')(hR: ∀W,R W->Ar w0 W)(hs:xE w0 w w' v xs):
 ∃A c,v= .slice A xs.length c/\Fz w' (jJ p vS vC) (fun W=>bf W A xs):=by
 rcases hs with⟨A,c,rfl,hc⟩|hr
 ·exact⟨A,c,rfl,fun W hW=>qM hc (hR W ((h.below hb).2.2.2.2.2.2.2.2 W hW))⟩
 ·obtain⟨A,c,rfl⟩:=Kd.ai hr
  exact⟨A,c,rfl,zP hr (fun k hk ho=>by have:=Kd.iW hr k hk;have:=h.iC ho;omega)⟩
theorem pQ(l:List Int)(k:Nat)(hk:k<l.length):((l.map (Value.int .i64)).toArray)[k]? =some (.int .i64 (l[k]?.getD 0)):=by
 simp[List.getElem?_map,hk]
def De(height:Nat)(x y:fT):Prop:=y.s.length=height/\y.code.length<=x.code.length+2/\y.left=x.left
theorem rB{R:World->Prop}{w:World}{p:GP}{x:fT}{vS vC:Value}(h:aG R w p x vS vC)(hT:dH R p)(height:Nat)(hh:height<=x.s.length)(hc:x.code.length+4<=1000000):Calls prog 170 #[.pointer (some ⟨p.g,0,none⟩),.int .i64 height] w (uJ R p (.tuple #[]) (De height x)):=by
 obtain⟨W0,rfl⟩:=ex w;obtain⟨x0,rfl⟩:=ex x;obtain⟨Du,rfl⟩:=ex vS;obtain⟨Cc,rfl⟩:=ex vC;have cn:=hd h;have HT:=hd hT;clear h hT;have HC:=hd hc;have HH:=hd hh;clear hc hh;obtain⟨PS0,kS0,es0⟩:=Kd.ai cn.o.2.2.2.2.2.2.1;subst es0;have fJ:=(aa cn.o.1 12).trans (jV cn.o.2.1 _ _ _);have d0:(0:Int)<=(height:Int):=by omega
 have d1:(height:Int)<=(kS0:Int):=by have:=(cn.o.gC height HH.o).1;omega
 have f12:=ah cn.o.1 12;have h1:=cn.o.cut height HH.o;have z0:=(aa cn.o.1 0).trans (jU _ _ _ _)
 go_enter func170,ntmps170
 go_wp2_with fail
 clear fJ d0 d1 f12 z0;obtain⟨x1,hx1⟩:=ex (fT.mk (x0.s.take height) x0.code x0.left x0.pos);rw[<-hx1]at h1;have fP:=hd (show x1.s.length=height/\x1.code.length=x0.code.length/\x1.left=x0.left by subst hx1;exact⟨by have:=HH.o;simp[this],rfl,rfl⟩);have bE:=hd h1;clear h1 hx1;generalize World.setCell _ ⟨p.g,12,none⟩ (.slice PS0 height kS0)=W1 at bE⊢;generalize Value.slice PS0 height kS0=Bd at bE;obtain⟨Be,rfl⟩:=ex Cc;refine(bK bE.o HT.o 4 (by decide) (by decide)).mono ?_;rintro e W2⟨r2,q2,D9,FT,rfl,h2⟩;obtain⟨x2,Bf,yb,rfl,rfl,bw,ep⟩:=Ae h2;clear h2;by_cases hz:r2=0
 ·have hz1:(r2==0)=true:=by simp[hz]
  clear hz;have hb:=bw.o.box #[.int .i64 26,.int .i64 106,.int .i64 160,.int .i64 124,.int .i64 192,.int .i64 69] 3;have y0:=(aa hb.1 0).trans (jU _ _ _ _)
  go_wp2_with fail
  clear y0;refine(bK hb (HT.o.weak (fun W hW=>hW.1)) 6 (by decide) (by decide)).mono ?_;rintro e W3⟨r3,q3,r0,r1,rfl,h3⟩;have hq:=(aa h3.get.2 r3.toNat).trans (pQ [26,106,160,124,192,69] r3.toNat (by simp;omega));obtain⟨x3,hx3⟩:=ex (fT.mk x2.s x2.code x2.left q3);rw[<-hx3]at h3;have cC:=hd (h3.weak (fun W hW=>hW.1));have gu:=hd (show Up 0 0 x2 x3 by subst hx3;exact⟨rfl,rfl,rfl⟩);clear h3 hx3 hb;obtain⟨v3,hv3⟩:=ex (([26,106,160,124,192,69]:List Int)[r3.toNat]?.getD 0);rw[<-hv3]at hq;clear hv3
  go_wp2_with fail
  refine(bY cC.o _ _ _ _ (by have a:=fP.o;have b:=ep.o;have c:=gu.o;have:=HC.o;unfold Up at b c;omega)).mono ?_;rintro e W4⟨rfl,x4,yc,rV,oz,h4⟩;have bP:=hd h4;have gX:=hd (show Up 0 1 x3 x4 from oz);clear h4 oz
  go_wp2_with fail
  refine(bY bP.o _ _ _ _ (by have a:=fP.o;have b:=ep.o;have c:=gu.o;have d:=gX.o;have:=HC.o;unfold Up at b c d;omega)).mono ?_;rintro e W5⟨rfl,x5,ye,uW,pR,h5⟩;have gI:=hd h5;have kI:=hd (show Up 0 1 x4 x5 from pR);clear h5 pR
  go_wp2_with fail
  go_end0
  exact⟨rfl,_,_,_,(by have a:=fP.o;have b:=((ep.o.trans gu.o).trans gX.o).trans kI.o;unfold Up at b;exact⟨by omega,by omega,by omega⟩),gI.o⟩
 ·have hz1:(r2==0)=false:=by simpa using hz
  clear hz
  go_wp2_with fail
  go_end0
  exact⟨rfl,_,_,_,(by have a:=fP.o;have b:=ep.o;unfold Up at b;exact⟨by omega,by omega,by omega⟩),bw.o⟩
theorem Dy{R:World->Prop}{w:World}{p:GP}{x:fT}{vS vC:Value}(h:aG R w p x vS vC)(hT:dH R p){M:bL}{L:List Int}{S:ig}(hE:kf R p M L S)(hM:jq M L S){n:Nat}(vW:lR R p n)(height:Nat)(hh:height<=x.s.length)(hs:x.code.length+x.s.length+100<=1000000):Calls prog 115 #[.pointer (some ⟨p.g,0,none⟩),.int .i64 height] w (uJ R p (.tuple #[]) (On 40 height x)):=by
 obtain⟨W0,rfl⟩:=ex w;obtain⟨x0,rfl⟩:=ex x;obtain⟨Du,rfl⟩:=ex vS;obtain⟨Cc,rfl⟩:=ex vC;have cn:=hd h;have HT:=hd hT;clear h hT;have HE:=hd hE;have gZ:=hd hM;have HB:=hd hs;have HH:=hd hh;clear hE hM hs hh;obtain⟨hn0,Tw,PL,Qj,Bs,ds,ls,Sn,hls,FU⟩:=vW;have HN:=hd (And.intro hn0 Tw);have Bh:=hd Sn;have xu:=hd hls;have qj:=hd FU;clear hn0 Tw Sn hls FU
 go_enter func115,ntmps115
 go_wp2_with fail
 have y0:=(aa cn.o.1 0).trans (jU _ _ _ _);have oA:=((aa cn.o.1 13).trans (rz cn.o.2.1 _ _ _)).trans (congrArg some Bh.o);refine st 11 (fun w'=>w'.cell? ⟨p.g,0,none⟩=some (.pointer (some ⟨p.tb,0,none⟩))/\w'.cell? ⟨p.g,13,none⟩=some (.slice (some PL) n (n+Qj))) [] ⟨y0,oA⟩ (fun ag=>?_);refine cZ 0 6 1 7 2 8 ?_;refine tk 3 9 ag ?_;refine cZ 4 10 5 11 6 12 ?_;refine tk 7 13 ag ?_;refine pu 8 14 ?_;refine on 9 (some 15) (fun K hK=>?_);refine ge (bK (cn.o.drewN 1) HT.o (n:Int) (by have:=HN.o;omega) (by have:=HN.o;omega)) ?_;rintro e W1⟨r1,q1,Dv,Dw,rfl,h1⟩;obtain⟨x1,bE,fP⟩:=Mf h1;clear h1;refine⟨_,rfl,?_⟩;refine hK.o _ _ ⟨((aa bE.o.1 0).trans (jU _ _ _ _)),(((aa bE.o.1 13).trans (rz bE.o.2.1 _ _ _)).trans (congrArg some Bh.o))⟩ (fun ag=>?_);clear hK K;refine nm ?_;refine pu 10 4 ?_;refine dn ?_;clear y0 oA;obtain⟨Bd,rfl⟩:=ex Du;obtain⟨Be,rfl⟩:=ex Cc;obtain⟨j1,rfl⟩: ∃j:Nat,r1=j:=⟨r1.toNat,by omega⟩;have iK:=hd (show j1<n by omega);clear Dv Dw;have e0:=HN.o;have e1:=iK.o;obtain⟨N,hN⟩:=ex (n-1);obtain⟨J,hJ⟩:=ex (N-j1);have a2:(n:Int)-1=(N:Int):=by omega
 have a3:(N:Int)-(j1:Int)=(J:Int):=by omega
 have b2:N<=4611686018427387904:=by omega
 have b3:J<=4611686018427387904:=by omega
 have hJ0:(0:Int)<=(J:Int):=by omega
 have Vh:(J:Int)<(n:Int):=by omega
 have Qk:=hd (show J<n by omega);have hc:=(qj.o _ bE.o.get J Qk.o).1;clear e0 e1 hN hJ;have w2:=kg _ _ a2 b2;have w3:=kg _ _ a3 b3;have w4:=Bc J b3;clear a2 a3 b2 b3;have oA:=((aa bE.o.1 13).trans (rz bE.o.2.1 _ _ _)).trans (congrArg some Bh.o)
 go_wp2_with fail
 go_quiet (fail)
 go_wp2_with fail
 clear oA w2 w3 w4 hc hJ0 Vh;refine(jo (bE.o.drewN _) HT.o HE.o (by have:=gZ.o.hL;omega) (by have:=gZ.o.Bg;omega) (Bs J) (ds J) (ls J) (fun W hW=>(qj.o W hW J Qk.o).2) (by have:=xu.o J;omega) height (by have u:=fP.o;have:=HH.o;unfold Up at u;omega) (by have u:=fP.o;have:=HB.o;unfold Up at u;omega) (by have u:=fP.o;have:=HB.o;unfold Up at u;omega)).mono ?_;rintro e W2⟨rfl,x2,Bf,yb,Qa,h2⟩;have bw:=hd h2;have ep:=hd Qa;clear h2 Qa;have qf:=hd (show height<=x2.s.length/\x2.s.length<=x0.s.length+8/\x2.code.length<=x0.code.length+8/\x2.left=x0.left by have u:=fP.o;have v:=ep.o;have:=xu.o J;unfold Up at u;unfold Nd at v;omega);clear ep
 go_wp2_with fail
 refine(j7 bw.o HT.o HE.o (by have:=gZ.o.hL;omega) (by have:=gZ.o.Bg;omega) 127 (by have:=qf.o;have:=HB.o;omega) (by have:=qf.o;have:=HB.o;omega)).mono ?_;rintro e W3⟨rfl,x3,qi,nZ,nu,h3⟩;have cC:=hd h3;have gu:=hd nu;clear h3 nu
 go_wp2_with fail
 refine(bY cC.o _ _ _ _ (by have:=qf.o;have u:=gu.o;have:=HB.o;unfold Up at u;omega)).mono ?_;rintro e W4⟨rfl,x4,yc,rV,oz,h4⟩;have bP:=hd h4;have gX:=hd (show Up 0 1 x3 x4 from oz);clear h4 oz;have hbd:0<x4.s.length/\x4.s.length<=1000000:=by have:=qf.o;have u:=gu.o;have v:=gX.o;have:=HB.o;unfold Up at u v;omega
 obtain⟨Lz,JG,Vc⟩:=Kd.ai bP.o.2.2.2.2.2.2.1;subst Vc;have fJ:=(aa bP.o.1 12).trans (jV bP.o.2.1 _ _ _);obtain⟨J,hJ⟩:=ex (x4.s.length-1);have a2:(x4.s.length:Int)-1=(J:Int):=by omega
 have b2:J<=4611686018427387904:=by omega
 have d0:(0:Int)<=(J:Int):=by omega
 have vV:=hd (show J<=x4.s.length by omega);have d1:(J:Int)<=(JG:Int):=by have:=(bP.o.gC J vV.o).1;omega
 have f12:=ah bP.o.1 12;have HJ:=hd (And.intro hJ hbd.1);clear hJ hbd;have w2:=kg _ _ a2 b2;clear a2 b2
 go_wp2_with fail
 refine st 15 (fun w'=>w'.cell? ⟨p.g,12,none⟩=some (.slice Lz x4.s.length JG)) [14] fJ (fun ag=>?_);refine cZ 0 40 1 41 2 42 ?_;refine pu 3 43 ?_;refine tk 4 44 ag ?_;refine cZ 5 45 6 46 7 47 ?_;refine tk 8 48 ag ?_;refine cZ 9 49 10 50 11 51 ?_;refine pu2 12 52 13 53 ?_;refine la 14 ?_;refine dn ?_;clear fJ w2 d0 d1 f12;have h9:aG R (World.setCell W4 ⟨p.g,12,none⟩ (.slice Lz J JG)).drew p _ _ _:=aG.cut (bP.o.drewN 1) J vV.o;generalize (World.setCell W4 ⟨p.g,12,none⟩ (.slice Lz J JG)).drew=W5 at h9⊢;generalize Value.slice Lz J JG=ye at h9;obtain⟨uW,rfl⟩:=ex rV;obtain⟨x5,hx⟩:=ex (fT.mk (x4.s.take J) x4.code x4.left x4.pos);rw[<-hx]at h9;have gI:=hd h9;have kI:=hd (show x5.s.length+1=x4.s.length/\x5.code.length=x4.code.length/\x5.left=x4.left by subst hx;exact⟨by have:=HJ.o;have:=vV.o;simp only[List.length_take];omega,rfl,rfl⟩);clear h9 hx HJ vV
 go_wp2_with fail
 go_end0
 exact⟨rfl,_,_,_,(by have:=qf.o;have u:=gu.o;have v:=gX.o;have t:=kI.o;unfold Up at u v;exact⟨by omega,by omega,by omega⟩),gI.o⟩
def vY(w:World)(g:Nat):World:= {w with heap:=w.heap.setIfInBounds g (.cells #[] 0 (0,0))}
theorem FV(w:World){g k:Nat}(h:k≠g):(vY w g).heap[k]? =w.heap[k]? :=by
 show(w.heap.setIfInBounds g _)[k]? =_
 rw[Array.getElem?_setIfInBounds_ne (fun e=>h e.symm)]
theorem O1(w:World)(g:Nat):jd (fun k=>k=g) w (vY w g):=⟨rfl,rfl,rfl,by simp[vY],fun k _ hn=>FV w hn⟩
theorem rC{w W:World}{g:Nat}(h:jd (fun k=>k=g) w W):Ar (vY w g) W:=fun a v e=>by
 by_cases hg:a.block=g
 ·exfalso
  have hl:=aR _ _ e
  have:(vY w g).heap[a.block]? =some (.cells #[] 0 (0,0)):=by
   show(w.heap.setIfInBounds g _)[a.block]? =_
   rw[hg];exact Array.getElem?_setIfInBounds_self_of_lt (by simpa[vY,hg]using hl)
  simp[World.cell?,this]at e
 ·have hl:=aR _ _ e
  have hk:W.heap[a.block]? =(vY w g).heap[a.block]? :=(h.block _ (by simpa[vY]using hl) hg).trans (FV w hg).symm;rw[<-e];simp[World.cell?,hk]
def Bi(P:World->Prop)(q:MP)(T:List ig)(I:List iX)(G:List dV)(D:List eF):Prop:=
 ∃A0 c0 A1 c1 A4 c4 A6 c6 AT cT,q.f0= .slice A0 T.length c0/\T.length<=c0/\q.f1= .slice A1 I.length c1/\I.length<=c1/\q.f4= .slice A4 G.length c4/\G.length<=c4/\q.f6= .slice A6 D.length c6/\D.length<=c6/\q.f7= .slice none 0 0/\q.vT= .slice AT q.tape.length cT/\
  ∀W,P W->qo.C W A0 T.length T/\j8.C W A1 I.length I/\eE.C W A4 G.length G/\fM.C W A6 D.length D/\bf W AT q.tape
def nv(T:List ig)(I:List iX)(G:List dV)(D:List eF)(x:MS):bL:=⟨T,I,x.fs,x.ms,G,x.es,D,[]⟩
section
variable {P:World->Prop} {w W:World} {q:MP} {x:MS} {v2 v3 v5:Value} {T:List ig} {I:List iX} {G:List dV} {D:List eF}
theorem lG.mod(h:lG P w q x v2 v3 v5)(hE:Bi P q T I G D): ∃A0 c0 A1 c1 A2 c2 A3 c3 A4 c4 A5 c5 A6 c6,zN q v2 v3 v5=#[.slice A0 T.length c0,.slice A1 I.length c1,.slice A2 x.fs.length c2,.slice A3 x.ms.length c3,.slice A4 G.length c4,.slice A5 x.es.length c5,.slice A6 D.length c6,.slice none 0 0]/\
 ∀W,jd (fun k=>k=q.tb\/k=q.rb) w W->bZ.K W (nv T I G D x) [.slice A0 T.length c0,.slice A1 I.length c1,.slice A2 x.fs.length c2,.slice A3 x.ms.length c3,.slice A4 G.length c4,.slice A5 x.es.length c5,.slice A6 D.length c6,.slice none 0 0]:=by
 obtain⟨A0,c0,A1,c1,A4,c4,A6,c6,AT,cT,e0,l0,e1,l1,e4,l4,e6,l6,e7,eT,hC⟩:=hE;obtain⟨A2,c2,rfl⟩:=Kd.cg h.rf;obtain⟨A3,c3,rfl⟩:=Kd.ai h.rm;obtain⟨A5,c5,rfl⟩:=Kd.ai h.re;refine⟨A0,c0,A1,c1,A2,c2,A3,c3,A4,c4,A5,c5,A6,c6,by simp only[zN,e0,e1,e4,e6,e7],fun W hO=>?_⟩;obtain⟨g0,g1,g4,g6,-⟩:=hC W (h.fz W (hO.mono (fun k hk=>hk.elim (fun e=> .inr (.inl e)) (fun e=> .inr (.inr (.inl e))))));have rf:=Kd.eN (Kd.qB h.rf (fun k hk bI=>hO.block k bI (fun e=>hk (e.elim (fun e=> .inr (.inl e)) (fun e=> .inr (.inr (.inl e)))))));have rm:=Kd.bA (jB rfl h.rm (fun k hk=>hO.block k (Kd.gY h.rm k hk) (fun e=>e.elim (fun e=>Kd.kr h.rm h.tp (by decide) (by rw[hk,e])) (fun e=>Kd.kr h.rm h.res (by decide) (by rw[hk,e])))));have re:=Kd.bA (jB rfl h.re (fun k hk=>hO.block k (Kd.gY h.re k hk) (fun e=>e.elim (fun e=>Kd.kr h.re h.tp (by decide) (by rw[hk,e])) (fun e=>Kd.kr h.re h.res (by decide) (by rw[hk,e])))));exact kz W (nv T I G D x) l0 g0 l1 g1 rf.2.1 rf.2.2 rm.2.1 rm.2.2 l4 g4 re.2.1 re.2.2 l6 g6 (aU 0) (Kd.iw _ _)
theorem LA{w W:World}{p:GP}{left pos:Int}(hO:jd (fun k=>k=p.tb) w W)(hg:W.heap[p.g]? =some (.cells (en p (.slice none 0 0) (.slice none 0 0) left) 91 (0,0)))(iR:p.fx.length=11)(hn:w.heap.size<=p.g)(ht:W.heap[p.tb]? =some (.cells #[p.vT,.int .i64 pos] 82 (0,0)))(h0:0<=pos)(h1:pos<=p.tape.length)(adj: ∀k,p.bad k->k<W.heap.size):
 aG (fun V=>jd (fun k=>k=p.tb) w V) W p ⟨[],[],left,pos⟩ (.slice none 0 0) (.slice none 0 0):=
 ⟨hg,iR,Gv hg ht (by decide),ht,⟨h0,adj⟩,h1,Kd.fS _ _ _ _ _,Kd.fS _ _ _ _ _,fun V hV=>hO.then hV (fun k hk=>by
  rcases hk with rfl|rfl|hk|hk
  ·exact .inr hn
  ·exact .inl rfl
  ·simp[Value.ownBlock]at hk
  ·simp[Value.ownBlock]at hk)⟩
end
theorem oB{α:Type}{d:Kd α}{V:World}{b:Nat}{e:TypeId}{cells:List Value}{fr:Nat×Nat}{xs:List α}(hb:V.heap[b]? =some (.cells cells.toArray e fr))(hr:dU (d.K V) d.sz xs cells)(hn:xs.length<=9223372036854775807):d.C V (some ⟨b,0,none⟩) xs.length xs:=
 ⟨rfl,hn,fun _=>⟨_,rfl,fun j p hj=>⟨(cells.drop (j*d.sz)).take d.sz,by
  have hjl:=(List.getElem?_eq_some_iff.1 hj).1;have h1:j*d.sz+d.sz<=cells.length:=by rw[hr.1,<-Nat.succ_mul];exact Nat.mul_le_mul_right _ hjl
  rw[List.length_take,List.length_drop];omega,hr.2 j p hj,fun i u hu=>by
  rw[List.getElem?_take]at hu
  split at hu
  ·rw[List.getElem?_drop]at hu
   rw[add_plain,cell_of_row V b _ _ e fr hb];simpa using hu
  ·cases hu⟩⟩⟩
theorem pS{k:IntKind}{V:World}{b:Nat}{e:TypeId}{fr:Nat×Nat}{l:List Int}(hb:V.heap[b]? =some (.cells (l.map (Value.int k)).toArray e fr))(hn:l.length<=9223372036854775807):(Kd.int k).C V (some ⟨b,0,none⟩) l.length l:=by
 refine oB hb ⟨by simp[Kd.int,Kd.scalar],fun j p hj=>?_⟩ hn;obtain⟨hj1,hj2⟩:=List.getElem?_eq_some_iff.1 hj;show((l.map (Value.int k)).drop (j*1)).take 1= [.int k p]
 have:(l.map (Value.int k)).drop j= .int k p::(l.map (Value.int k)).drop (j+1):=by rw[List.drop_eq_getElem_cons (by simpa using hj1)];simp[hj2]
 rw[Nat.mul_one,this];rfl
def O2(P:World->Prop)(q:MP):Prop:=q.tape.length<=4611686018427387904/\ ∃A c,q.vT= .slice A q.tape.length c/\ ∀W,P W->bf W A q.tape
structure mH(P:World->Prop)(w0 w:World)(q:MP)(x:MS)(v2 v3 v5:Value)(s:Int):Prop where
 st:lG P w0 q x v2 v3 v5
 off:jd (fun k=>k=q.tb) w0 w
 tp:w.heap[q.tb]? =some (.cells #[q.vT,.int .i64 s] 82 (0,0))
 p0:0<=s
 p1:s<=q.tape.length
section
variable {P:World->Prop} {w0 w w':World} {q:MP} {x:MS} {v2 v3 v5:Value} {s:Int}
theorem lG.YJ(h:lG P w q x v2 v3 v5):mH P w w q x v2 v3 v5 x.pos:=⟨h,jd.refl _ _,h.tp,h.p0,h.p1⟩
theorem mH.at_(h:mH P w0 w q x v2 v3 v5 s):lG P w q ⟨s,x.fs,x.ms,x.es⟩ v2 v3 v5:=h.st.off h.off h.tp h.p0 h.p1
theorem mH.Ql(h:mH P w0 w q x v2 v3 v5 s):q.tb<w0.heap.size:=aj h.st.tp
theorem mH.below(h:mH P w0 w q x v2 v3 v5 s)(hb:Below w.heap.size w w'):mH P w0 w' q x v2 v3 v5 s:=⟨h.st,h.off.below hb,(hb.block _ (aj h.tp)).trans h.tp,h.p0,h.p1⟩
theorem mH.drewN(h:mH P w0 w q x v2 v3 v5 s)(n:Nat):mH P w0 (w.drewN n) q x v2 v3 v5 s:=h.below (aq (ay _ _) n)
theorem mH.alloc(h:mH P w0 w q x v2 v3 v5 s)(o:Obj):mH P w0 (w.alloc o) q x v2 v3 v5 s:=h.below (af (ay _ _) o)
theorem mH.grown(h:mH P w0 w q x v2 v3 v5 s){row:Option Nat}(hG:w.grownBy w' row)(hr: ∀k,row=some k->w0.heap.size<=k):mH P w0 w' q x v2 v3 v5 s:=
 ⟨h.st,h.off.grown hG (fun k hk=> .inr (hr k hk)),bD h.tp hG (fun e=>by have:=hr _ e.symm;have:=h.Ql;omega),h.p0,h.p1⟩
theorem mH.put(h:mH P w0 w q x v2 v3 v5 s){g j:Nat}(hg:w0.heap.size<=g)(v:Value):mH P w0 (w.setCell ⟨g,j,none⟩ v) q x v2 v3 v5 s:=
 ⟨h.st,⟨h.off.os,h.off.tape,h.off.output,by have:=h.off.size;simp only[World.setCell];simpa using this,fun k hk hn=>(dX w ⟨g,j,none⟩ v k (fun e=>by have:k=g:=e;omega)).trans (h.off.block k hk hn)⟩,bR h.tp (p:=⟨g,j,none⟩) (fun e=>by have:=h.Ql;have:q.tb=g:=e;omega) _,h.p0,h.p1⟩
theorem uM(h:mH P w0 w q x v2 v3 v5 s)(hT:O2 P q)(n:Int)(n1:0<n)(n2:n<=4294967296):
 Calls prog 30 #[.pointer (some ⟨q.tb,0,none⟩),.int .i64 n] w (fun e w'=> ∃r s',0<=r/\r<n/\e= .returned (.int .i64 r)/\mH P w0 w' q x v2 v3 v5 s'/\jd (fun k=>k=q.tb) w w'):=by
 obtain⟨hl,A,c,e,f⟩:=hT;have hb:=h.tp;rw[e]at hb;refine(Cb w q.tb A c q.tape s n hb (fun W hW=>f W (h.st.fz W ((h.off.then hW (fun k hk=> .inl hk)).mono (fun k hk=> .inr (.inl hk))))) h.p0 h.p1 hl n1 n2).mono ?_;rintro e w'⟨r,s',r0,r1,he,q0,q1,hw⟩;refine⟨r,s',r0,r1,he,?_⟩;rcases hw with⟨k,rfl,rfl⟩|⟨a,b,rfl⟩
 ·exact⟨h.drewN k,(jd.refl _ _).below (aq (ay _ _) k)⟩
 ·have h1:=h.drewN a
  have hO:jd (fun k=>k=q.tb) (w.drewN a) ((w.drewN a).setCell ⟨q.tb,1,none⟩ (.int .i64 s')):=(jd.refl (fun k=>k=q.tb) (w.drewN a)).set (g:=q.tb) rfl _;have h2:mH P w0 ((w.drewN a).setCell ⟨q.tb,1,none⟩ (.int .i64 s')) q x v2 v3 v5 s':=⟨h1.st,h1.off.then hO (fun k hk=> .inl hk),bC h1.tp 1 _,q0,q1⟩;exact⟨h2.drewN b,(((jd.refl _ _).below (aq (ay _ _) a)).then hO (fun k hk=> .inl hk)).below (aq (ay _ _) b)⟩
theorem lS(h:lG P w q x v2 v3 v5)(hT:O2 P q)(n:Int)(n1:0<n)(n2:n<=4294967296):
 Calls prog 30 #[.pointer (some ⟨q.tb,0,none⟩),.int .i64 n] w (fun e w'=> ∃r s,0<=r/\r<n/\e= .returned (.int .i64 r)/\lG P w' q ⟨s,x.fs,x.ms,x.es⟩ v2 v3 v5):=by
 refine(uM h.YJ hT n n1 n2).mono ?_;rintro e w'⟨r,s,r0,r1,he,h1,-⟩;exact⟨r,s,r0,r1,he,h1.at_⟩
end
def l9:List ig:= [⟨[],[]⟩,⟨[127],[127]⟩,⟨[127,127],[127,127]⟩,⟨[126,124],[124]⟩,⟨[],[127,126,124]⟩,⟨[127],[127,126]⟩,⟨[124],[127]⟩,⟨[127,126],[]⟩,⟨[126],[126]⟩]
def JI(b:Nat):List Value:= [.slice none 0 0,.slice none 0 0,.slice (some ⟨b+0,0,none⟩) 1 1,.slice (some ⟨b+1,0,none⟩) 1 1,.slice (some ⟨b+2,0,none⟩) 2 2,.slice (some ⟨b+3,0,none⟩) 2 2,.slice (some ⟨b+4,0,none⟩) 2 2,.slice (some ⟨b+5,0,none⟩) 1 1,.slice none 0 0,.slice (some ⟨b+6,0,none⟩) 3 3,.slice (some ⟨b+7,0,none⟩) 1 1,.slice (some ⟨b+8,0,none⟩) 2 2,.slice (some ⟨b+9,0,none⟩) 1 1,.slice (some ⟨b+10,0,none⟩) 1 1,.slice (some ⟨b+11,0,none⟩) 2 2,.slice none 0 0,.slice (some ⟨b+12,0,none⟩) 1 1,.slice (some ⟨b+13,0,none⟩) 1 1]
def Ik:List (List Int):= [[127],[127],[127,127],[127,127],[126,124],[124],[127,126,124],[127],[127,126],[124],[127],[127,126],[126],[126]]
def FW(V:World)(b:Nat):Prop:=(∀(i:Nat) (l:List Int),Ik[i]? =some l->V.heap[b+i]? =some (.cells (l.map (Value.int .i64)).toArray 3 (0,0)))/\V.heap[b+14]? =some (.cells (JI b).toArray 40 (0,0))
theorem FW.off{O:Nat->Prop}{V W:World}{b:Nat}(h:FW V b)(hO:jd O V W)(hn: ∀k,b<=k->k<=b+14-> ¬O k):FW W b:=by
 refine⟨fun i l hi=>?_,?_⟩
 ·have hl:=(List.getElem?_eq_some_iff.1 hi).1
  have:i<14:=hl;exact(hO.block _ (aj (h.1 i l hi)) (hn _ (by omega) (by omega))).trans (h.1 i l hi)
 ·exact(hO.block _ (aj h.2) (hn _ (by omega) (by omega))).trans h.2
theorem FW.C{V:World}{b:Nat}(h:FW V b):qo.C V (some ⟨b+14,0,none⟩) 9 l9:=by
 have r: ∀(i:Nat) (l:List Int),Ik[i]? =some l->l.length<=9223372036854775807->bf V (some ⟨b+i,0,none⟩) l:=fun i l hi hl=>pS (h.1 i l hi) hl
 refine oB h.2 (xs:=l9) ?_ (by decide);have nl: ∀V:World,(Kd.int .i64).C V none ([]:List Int).length []:=fun V=>Kd.iw _ V
 exact((((((((((dU.none _ _).snoc (kU V ⟨[],[]⟩ (aU 0) (nl V) (aU 0) (nl V)) rfl).snoc (kU V ⟨[127],[127]⟩ (aU _) (r 0 _ rfl (by decide)) (aU _) (r 1 _ rfl (by decide))) rfl).snoc (kU V ⟨[127,127],[127,127]⟩ (aU _) (r 2 _ rfl (by decide)) (aU _) (r 3 _ rfl (by decide))) rfl).snoc (kU V ⟨[126,124],[124]⟩ (aU _) (r 4 _ rfl (by decide)) (aU _) (r 5 _ rfl (by decide))) rfl).snoc (kU V ⟨[],[127,126,124]⟩ (aU 0) (nl V) (aU _) (r 6 _ rfl (by decide))) rfl).snoc (kU V ⟨[127],[127,126]⟩ (aU _) (r 7 _ rfl (by decide)) (aU _) (r 8 _ rfl (by decide))) rfl).snoc (kU V ⟨[124],[127]⟩ (aU _) (r 9 _ rfl (by decide)) (aU _) (r 10 _ rfl (by decide))) rfl).snoc (kU V ⟨[127,126],[]⟩ (aU _) (r 11 _ rfl (by decide)) (aU 0) (nl V)) rfl).snoc (kU V ⟨[126],[126]⟩ (aU _) (r 12 _ rfl (by decide)) (aU _) (r 13 _ rfl (by decide))) rfl)
theorem gv(l:List Obj): ∀(w:World) (i:Nat) (o:Obj),l[i]? =some o->(l.foldl World.alloc w).heap[w.heap.size+i]? =some o:=by
 induction l with
 |nil=>intro w i o h;simp at h
 |cons a l ih=>
  intro w i o h;cases i with
  |zero=>
   have hb: ∀(l:List Obj) (w:World),Below w.heap.size w (l.foldl World.alloc w):=by
    intro l;induction l with
    |nil=>intro w;exact ay _ _
    |cons a l ih=>intro w;exact az (af (ay _ _) a) (ih (w.alloc a))
   have e:a=o:=by simpa using h
   subst e;exact((hb l (w.alloc a)).block _ (by simp)).trans (dh w a)
  |succ i=>
   have:=ih (w.alloc a) i o (by simpa using h);rw[show(w.alloc a).heap.size+i=w.heap.size+(i+1) by simp;omega]at this;exact this
def YK(b:Nat):List Obj:=Ik.map (fun l=> .cells (l.map (Value.int .i64)).toArray 3 (0,0))++ [.cells (JI b).toArray 40 (0,0)]
theorem Sq(w:World):FW ((YK w.heap.size).foldl World.alloc w) w.heap.size:=by
 refine⟨fun i l hi=>gv _ w i _ ?_,gv _ w 14 _ rfl⟩;have hl:=(List.getElem?_eq_some_iff.1 hi).1;unfold YK;rw[List.getElem?_append_left (by simpa using hl),List.getElem?_map,hi];rfl
theorem Il(w:World):Calls prog 29 #[] w (fun e w'=>e= .returned (.slice (some ⟨w.heap.size+14,0,none⟩) 9 9)/\FW w' w.heap.size/\Below w.heap.size w w'/\w'.heap.size=w.heap.size+15):=by
 go_enter func29,ntmps29
 go_wp2_with fail
 go_ret;refine⟨rfl,Sq w,?_,?_⟩
 ·repeat (first|exact ay _ _|refine af ?_ _)
 ·simp
def kG:List iX:= [⟨⟨#[104,111,115,116]⟩,⟨#[111,110,101]⟩,1⟩,⟨⟨#[104,111,115,116]⟩,⟨#[116,119,111]⟩,7⟩]
def iJ:List dV:= [⟨127,true,5⟩,⟨126,true,1099511627776⟩,⟨124,true,4611686018427387904⟩,⟨127,false,9⟩]
abbrev zQ:List Value:= [.string ⟨#[104,111,115,116]⟩,.string ⟨#[111,110,101]⟩,.int .i64 1,.string ⟨#[104,111,115,116]⟩,.string ⟨#[116,119,111]⟩,.int .i64 7]
abbrev vZ:List Value:= [.int .i64 127,.bool true,.int .u64 5,.int .i64 126,.bool true,.int .u64 1099511627776,.int .i64 124,.bool true,.int .u64 4611686018427387904,.int .i64 127,.bool false,.int .u64 9]
theorem Vi{V:World}{b:Nat}{e:TypeId}(h:V.heap[b]? =some (.cells zQ.toArray e (0,0))):j8.C V (some ⟨b,0,none⟩) 2 kG:=
 oB h (xs:=kG) (((dU.none _ _).snoc (tQ V ⟨⟨#[104,111,115,116]⟩,⟨#[111,110,101]⟩,1⟩) rfl).snoc (tQ V ⟨⟨#[104,111,115,116]⟩,⟨#[116,119,111]⟩,7⟩) rfl) (by decide)
theorem Sr{V:World}{b:Nat}{e:TypeId}(h:V.heap[b]? =some (.cells vZ.toArray e (0,0))):eE.C V (some ⟨b,0,none⟩) 4 iJ:=
 oB h (xs:=iJ) (((((dU.none _ _).snoc (lK V ⟨127,true,5⟩) rfl).snoc (lK V ⟨126,true,1099511627776⟩) rfl).snoc (lK V ⟨124,true,4611686018427387904⟩) rfl).snoc (lK V ⟨127,false,9⟩) rfl) (by decide)
def Vj(w:World)(bt bi bg:Nat)(V:World):Prop:=Below w.heap.size w V/\FW V bt/\V.heap[bi]? =some (.cells zQ.toArray 72 (0,0))/\V.heap[bg]? =some (.cells vZ.toArray 55 (0,0))
def mq(hr tb bt mb:Nat)(A:Option Addr)(c:Nat)(l:List Int):MP:=⟨mb,tb,hr,.slice A l.length c,l,.slice (some ⟨bt+14,0,none⟩) 9 9,.slice (some ⟨mb+1,0,none⟩) 2 2,.slice (some ⟨mb+1+1,0,none⟩) 4 4,.slice none 0 0,.slice none 0 0⟩
theorem LB{w X:World}{hr tb bt mb:Nat}{A:Option Addr}{c:Nat}{l:List Int}(n0:w.heap.size<=hr)(n1:hr<tb)(n2:tb<bt)(n3:bt+15<=mb)(hF:Vj w bt (mb+1) (mb+1+1) X)
 (hz:X.heap[hr]? =some (.cells eR 37 (0,0))) (ht:X.heap[tb]? =some (.cells #[.slice A l.length c,.int .i64 0] 82 (0,0)))
 (hm:X.heap[mb]? =some (.cells #[.slice (some ⟨bt+14,0,none⟩) 9 9,.slice (some ⟨mb+1,0,none⟩) 2 2,.slice none 0 0,.slice none 0 0,.slice (some ⟨mb+1+1,0,none⟩) 4 4,.slice none 0 0,.slice none 0 0,.slice none 0 0] 37 (0,0))):
 lG (Vj w bt (mb+1) (mb+1+1)) X (mq hr tb bt mb A c l) ⟨0,[],[],[]⟩ (.slice none 0 0) (.slice none 0 0) (.slice none 0 0):=by
 obtain⟨f0,f2,f3,f4⟩:=hF;refine⟨hm,ht,hz,(by show mb≠hr;omega),Int.le_refl _,Int.natCast_nonneg _,Kd.WZ _ _ _ _ _,Kd.fS _ _ _ _ _,Kd.fS _ _ _ _ _,fun V hV=>?_⟩
 have key: ∀k,k≠mb->k≠tb->k≠hr-> ¬FR (mq hr tb bt mb A c l) (.slice none 0 0) (.slice none 0 0) (.slice none 0 0) k:=fun k h1 h2 h3 ho=>by
  rcases ho with e|e|e|e|e|e
  ·exact h1 e
  ·exact h2 e
  ·exact h3 e
  all_goals simp[Value.ownBlock]at e
 refine⟨⟨hV.os.trans f0.os,hV.tape.trans f0.tape,hV.output.trans f0.output,cG f0.size hV.size,fun k hk=>(hV.block k (jv hk f0.size) (key k (by omega) (by omega) (by omega))).trans (f0.block k hk)⟩,f2.off hV (fun k h1 h2=>key k (by omega) (by omega) (by omega)),?_,?_⟩
 ·exact(hV.block _ (aj f3) (key _ (by omega) (by omega) (by omega))).trans f3
 ·exact(hV.block _ (aj f4) (key _ (by omega) (by omega) (by omega))).trans f4
theorem Ss{w:World}{hr tb bt mb:Nat}{A:Option Addr}{c:Nat}{l:List Int}(hC:bf w A l):Bi (Vj w bt (mb+1) (mb+1+1)) (mq hr tb bt mb A c l) l9 kG iJ []:=
 ⟨_,_,_,_,_,_,_,_,_,_,rfl,aU 9,rfl,aU 2,rfl,aU 4,rfl,aU 0,rfl,rfl,fun W hW=>⟨hW.2.1.C,Vi hW.2.2.1,Sr hW.2.2.2,Kd.iw _ _,Kd.bJ hC hW.1⟩⟩
theorem Bi.tape{P:World->Prop}{q:MP}{T:List ig}{I:List iX}{G:List dV}{D:List eF}(h:Bi P q T I G D)(hl:q.tape.length<=4611686018427387904):O2 P q:=by
 obtain⟨A0,c0,A1,c1,A4,c4,A6,c6,AT,cT,e0,l0,e1,l1,e4,l4,e6,l6,e7,eT,hC⟩:=h;exact⟨hl,AT,cT,eT,fun W hW=>(hC W hW).2.2.2.2⟩
theorem Bi.dat{P P':World->Prop}{q:MP}{T:List ig}{I:List iX}{G:List dV}{D D2:List eF}{A:Option Addr}{c:Nat}(h:Bi P q T I G D)(hP: ∀W,P' W->P W)(hl:D2.length<=c)(hD: ∀W,P' W->fM.C W A D2.length D2):Bi P' {q with f6:= .slice A D2.length c} T I G D2:=by
 obtain⟨A0,c0,A1,c1,A4,c4,A6,c6,AT,cT,e0,l0,e1,l1,e4,l4,e6,l6,e7,eT,hC⟩:=h;exact⟨A0,c0,A1,c1,A4,c4,A,c,AT,cT,e0,l0,e1,l1,e4,l4,rfl,hl,e7,eT,fun W hW=>⟨(hC W (hP W hW)).1,(hC W (hP W hW)).2.1,(hC W (hP W hW)).2.2.1,hD W hW,(hC W (hP W hW)).2.2.2.2⟩⟩
abbrev O3(m a:Int)(b1 b2:Nat):List Value:= [.bool true,.int .i64 m,.int .i64 a,.slice (some ⟨b1,0,none⟩) 6 6,.bool false,.int .i64 0,.int .i64 0,.slice (some ⟨b2,0,none⟩) 7 7]
def JJ(m a:Int):List eF:= [⟨true,m,a,[97,99,116,105,118,101]⟩,⟨false,0,0,[112,97,115,115,105,118,101]⟩]
theorem Vk{V:World}{b b1 b2:Nat}{m a:Int}{e e1:TypeId}{fr1 fr2:Nat×Nat}(h1:V.heap[b1]? =some (.cells (([97,99,116,105,118,101]:List Int).map (Value.int .u8)).toArray e1 fr1))(h2:V.heap[b2]? =some (.cells (([112,97,115,115,105,118,101]:List Int).map (Value.int .u8)).toArray e1 fr2))
 (h:V.heap[b]? =some (.cells (O3 m a b1 b2).toArray e (0,0))):fM.C V (some ⟨b,0,none⟩) 2 (JJ m a):=
 oB h (xs:=JJ m a) (((dU.none _ _).snoc (qI V ⟨true,m,a,[97,99,116,105,118,101]⟩ (aU _) (pS h1 (show 6<=9223372036854775807 by decide))) rfl).snoc (qI V ⟨false,0,0,[112,97,115,115,105,118,101]⟩ (aU _) (pS h2 (show 7<=9223372036854775807 by decide))) rfl) (show 2<=9223372036854775807 by decide)
theorem yf:(prog.info? 74).map (fun i=>(i.zero,i.size,i.bytes))=some (some (.agg #[.int .i64 0,.int .i64 0]),jQ.sz,16):=by kernel_rfl
theorem yg:(prog.info? 59).map (fun i=>(i.zero,i.size,i.bytes))=some (some (.agg #[.int .i64 0,.slice none 0 0,.slice none 0 0]),fL.sz,56):=by kernel_rfl
theorem al3{V W:World}{o0 o1 o2:Obj}(h:V=((W.alloc o0).alloc o1).alloc o2):V.heap[W.heap.size]? =some o0/\V.heap[W.heap.size+1]? =some o1/\V.heap[W.heap.size+1+1]? =some o2/\Below W.heap.size W V:=by
 subst h;exact⟨gv [o0,o1,o2] W 0 _ rfl,gv [o0,o1,o2] W 1 _ rfl,gv [o0,o1,o2] W 2 _ rfl,af (af (af (ay _ _) _) _) _⟩
theorem rX:(prog.info? 86).map (fun i=>(i.zero,i.size,i.bytes))=some (some (.agg #[.string ⟨#[]⟩,.int .i64 0,.int .i64 0]),lW.sz,32):=by kernel_rfl
theorem FX{w0 w w':World}{v:Value}{xs:List Int}(hs:xE w0 w w' v xs)(hR:Ar w0 w'): ∃A c,v= .slice A xs.length c/\bf w' A xs:=by
 rcases hs with⟨A,c,rfl,hc⟩|hr
 ·exact⟨A,c,rfl,qM hc hR⟩
 ·obtain⟨A,c,rfl⟩:=Kd.ai hr
  exact⟨A,c,rfl,(Kd.bA hr).2.2⟩
def O4(w:World)(L:List Int)(e:Ending)(w':World):Prop:= ∃v,e= .returned v/\cO w' w.heap.size v L/\Below w.heap.size w w'
theorem FY(M:bL)(cs:List Value)(j:Nat)(w0 w:World)(hM:bZ.K w0 M cs)(hb0:Ar w0 w)(n1:M.f1.length<=1000)(n2:M.f2.length<=1000)(hj:j<M.f2.length)(T:ig)(hT:Sp.aM M ((M.f1.length:Int)+j)=some T)(hT8:T.f0.length<=8)(hl:(aF M.f2 (j:Int)).f1.length<=8):Calls prog 31 #[.agg cs.toArray,.int .i64 ((M.f1.length:Int)+j)] w (O4 w (T.f0++(aF M.f2 (j:Int)).f1)):=by
 have HM:=hd hM;obtain⟨A0,c0,A1,c1,A2,c2,A3,c3,A4,c4,A5,c5,A6,c6,A7,c7,rfl,l0,g0,l1,g1,l2,g2,-⟩:=aD hM;obtain⟨bd,B1,d1,B2,d2,rfl,e1,e2,e3,m1,q1,-⟩:=ku g2 (j:Int) (by omega) (by omega);rw[dF]at e2;obtain⟨L,hL⟩:=ex ((aF M.f2 (j:Int)).f1);rw[<-hL]at e2 q1 m1 hl⊢;have E2:=hd e2;have Q1:=hd q1;have HN:=hd (And.intro n1 n2);have HJ:=hd hj;have HT:=hd hT;have H8:=hd (And.intro hT8 hl);have cn:=hd hb0;clear hM g0 g1 g2 l0 l1 l2 e1 e2 e3 m1 q1 n1 n2 hj hT hT8 hl hL hb0
 go_enter func31,ntmps31
 go_wp2_with fail
 have gG:=af (ay w.heap.size w) (.cells #[.slice A0 M.f0.length c0,.slice A1 M.f1.length c1,.slice (some bd) M.f2.length c2,.slice A3 M.f3.length c3,.slice A4 M.f4.length c4,.slice A5 M.f5.length c5,.slice A6 M.f6.length c6,.slice A7 M.f7.length c7] 37);have hx:=dh w (.cells #[.slice A0 M.f0.length c0,.slice A1 M.f1.length c1,.slice (some bd) M.f2.length c2,.slice A3 M.f3.length c3,.slice A4 M.f4.length c4,.slice A5 M.f5.length c5,.slice A6 M.f6.length c6,.slice A7 M.f7.length c7] 37);generalize w.alloc (.cells #[.slice A0 M.f0.length c0,.slice A1 M.f1.length c1,.slice (some bd) M.f2.length c2,.slice A3 M.f3.length c3,.slice A4 M.f4.length c4,.slice A5 M.f5.length c5,.slice A6 M.f6.length c6,.slice A7 M.f7.length c7] 37)=X at gG hx⊢;refine(tW M _ _ w0 X HM.o (cn.o.then gG) (by have:=HN.o;omega) (by have:=HN.o;omega)).mono ?_;rintro e W⟨u1,u2,rfl,s1,s2,hb⟩;rw[HT.o]at s1 s2⊢;simp only[Option.getD_some,Option.isSome_some]at s1 s2⊢;have hw:=az gG hb;obtain⟨A9,c9,rfl,q9⟩:=FX s1 (cn.o.then hw);obtain⟨i7,c10,rfl,Yg⟩:=FX s2 (cn.o.then hw);have hx2:=(hb.block _ (aj hx)).trans hx;clear s1 s2 Yg hb hx;have hy:=dh W (.cells #[.slice A9 T.f0.length c9,.slice i7 T.f1.length c10] 40);have hbW:=az hw (af (ay _ W) (.cells #[.slice A9 T.f0.length c9,.slice i7 T.f1.length c10] 40));have hx3:=((af (ay _ W) (.cells #[.slice A9 T.f0.length c9,.slice i7 T.f1.length c10] 40)).block _ (aj hx2)).trans hx2;have q9':=Kd.aS q9 (.cells #[.slice A9 T.f0.length c9,.slice i7 T.f1.length c10] 40);have z1:=(aa hx3 1).trans rfl;have k1: ¬((M.f1.length:Int)+(j:Int)<(M.f1.length:Int)):=by omega
 have Z3:=hd hx3;have ZY:=hd hy;have ZB:=hd hbW;have Q9:=hd q9';clear hx2 hx3 hy hbW q9 q9' hw gG
 go_wp2_with fail
 generalize W.alloc (.cells #[.slice A9 T.f0.length c9,.slice i7 T.f1.length c10] 40)=Y at Z3 ZY ZB Q9 z1⊢;clear z1 k1;have y0:=(aa ZY.o 0).trans rfl;have y1:=(aa Z3.o 1).trans rfl;have y2:=(aa Z3.o 2).trans rfl;have y3:=(cn.o.then ZB.o) _ _ E2.o;have j0:(0:Int)<=(j:Int):=by omega
 have j1:(j:Int)<(M.f2.length:Int):=by have:=HJ.o;omega
 have hw:=kg ((M.f1.length:Int)+(j:Int)-(M.f1.length:Int)) j (by omega) (by have:=HJ.o;have:=HN.o;omega);have e8:((j:Int)).toNat=j:=dF j;refine st 16 (fun w'=>w'.cell? ⟨W.heap.size,0,none⟩=some (.slice A9 T.f0.length c9)/\w'.cell? ⟨w.heap.size,1,none⟩=some (.slice A1 M.f1.length c1)/\w'.cell? ⟨w.heap.size,2,none⟩=some (.slice (some bd) M.f2.length c2)/\w'.cell? ⟨(bd.add (j*3)).block,(bd.add (j*3)).off+1,none⟩=some (.slice B1 L.length d1)) [] ⟨y0,y1,y2,y3⟩ (fun ag=>?_);refine pu 1 23 ?_;refine tk 2 24 ag ?_;refine pu 4 26 ?_;refine tk 5 27 ag ?_;refine pu2 6 28 7 29 ?_;refine tk 8 30 ag ?_;refine cZ 9 31 10 32 11 33 ?_;refine pu 12 34 ?_;refine tk 13 35 ag ?_;refine on 0 (some 22) (fun K hK=>?_);rw[if_pos (by rfl)]
 go_simp
 refine hK.o _ _ ⟨ak ag.1,ak ag.2.1,ak ag.2.2.1,ak ag.2.2.2⟩ (fun ag=>?_);clear hK K;refine on 3 (some 25) (fun K hK=>?_);refine Kd.cr (Kd.int .i64) (w0:=Y.drew) (W:=(Y.drew.alloc (.cells #[] 3))) Y.drew.heap.size (by rfl) (.tmp 22) (.tmp 24) 23 3 (.int .i64 0) 8 (by rfl) underlying23 cQ rfl (by decide) (by decide) (.slice (some ⟨Y.drew.heap.size,0,none⟩) 0 0) [] T.f0 A9 T.f0.length c9 (fun _=>True) (fun _=>False) (by rfl) (by rfl) (dW (xs:= []) (alloc_at rfl) (aU _) (fN (by simp))) (Kd.aS (Kd.eL Q9.o) _) (fun _ _ h=>h) (fun _ h=>h.elim) (fun _ _=>trivial) (af (ay _ _) _) (by simp) (by have:=H8.o;simp;omega) ?_;intro v9 u1 hR hB hG hat;obtain⟨P9,k9,e9⟩:=Kd.ai hR;generalize ([]++T.f0:List Int).length=n9 at e9;subst e9;have iK:=hd hR;have bE:=hd hB;clear hR hB hG hat;refine hK.o (Act.put _ (some 25) _) _ ⟨((bE.o.cell (aR _ _ y0)).trans y0),((bE.o.cell (aR _ _ y1)).trans y1),((bE.o.cell (aR _ _ y2)).trans y2),((bE.o.cell (aR _ _ y3)).trans y3)⟩ (fun ag=>?_);clear hK K;refine nm ?_;refine on 14 (some 36) (fun K hK=>?_);refine Kd.cr (Kd.int .i64) (w0:=Y.drew) (W:=u1) Y.drew.heap.size (by rfl) (.tmp 25) (.tmp 35) 23 3 (.int .i64 0) 8 (by rfl) underlying23 cQ rfl (by decide) (by decide) (.slice P9 n9 k9) ([]++T.f0) L B1 L.length d1 (fun _=>True) (fun _=>False) (by rfl) (by rfl) iK.o (Kd.bJ (Kd.eL (qM Q1.o (cn.o.then ZB.o))) bE.o) (fun _ _ h=>h) (fun _ h=>h.elim) (fun _ _=>trivial) bE.o bE.o.size (by have:=H8.o;simp;omega) ?_;intro v8 u2 hR hB hG hat;obtain⟨P8,k8,e8⟩:=Kd.ai hR;generalize hn8:([]++T.f0++L:List Int).length=n8 at e8;subst e8;have ia:=hd hR;have bw:=hd hB;clear hR hB hG hat;refine hK.o (Act.put _ (some 36) _) _ ⟨((bw.o.cell (aR _ _ y0)).trans y0),((bw.o.cell (aR _ _ y1)).trans y1),((bw.o.cell (aR _ _ y2)).trans y2),((bw.o.cell (aR _ _ y3)).trans y3)⟩ (fun ag=>?_);clear hK K;refine nm ?_;refine pu 15 4 ?_;refine dn ?_
 go_wp2_with fail
 go_ret;have hr:=Kd.eH ia.o (show w.heap.size<=Y.drew.heap.size from ZB.o.size);have hb:=az (aX ZB.o) bw.o;exact⟨_,rfl,hr,hb⟩
theorem jq.YL{M:bL}{L:List Int}{S:ig}(h:jq M L S)(f:Int):((Sp.aM M f).getD cv).f0.length<=8/\((Sp.aM M f).getD cv).f1.length<=8:=by
 unfold Sp.aM;cases Sp.fnType M f with
 |none=>simp[cv]
 |some k=>
  show((Sp.Ap M k).getD cv).f0.length<=8/\((Sp.Ap M k).getD cv).f1.length<=8
  unfold Sp.Ap
  split
  ·exact h.ht k
  ·simp[cv]
theorem O5{R:World->Prop}{w:World}{p:GP}{x:fT}{vS vC:Value}(h:aG R w p x vS vC)(hT:dH R p){M:bL}{L:List Int}{S:ig}(hE:kf R p M L S)(hM:jq M L S)(height:Nat)(hh:height<=x.s.length)(hs:x.code.length+x.s.length+100<=1000000):Calls prog 113 #[.pointer (some ⟨p.g,0,none⟩),.int .i64 height] w (uJ R p (.tuple #[]) (On 40 height x)):=by
 obtain⟨W0,rfl⟩:=ex w;obtain⟨x0,rfl⟩:=ex x;obtain⟨Du,rfl⟩:=ex vS;obtain⟨Cc,rfl⟩:=ex vC;have cn:=hd h;have HT:=hd hT;clear h hT;have HE:=hd hE;obtain⟨w0,A0,c0,A1,c1,A2,c2,A3,c3,A4,c4,A5,c5,A6,c6,A7,c7,AL,cL,AS,cS,AR,cR,iR,Cf,Cg⟩:=hE;have iL:=hd iR;have OY:=hd Cf;have Af:=hd Cg;clear iR Cf Cg;have gZ:=hd hM;have HB:=hd hs;have HH:=hd hh;clear hM hs hh;obtain⟨N,hN⟩:=ex (M.f1.length+M.f2.length);have a1:(M.f1.length:Int)+(M.f2.length:Int)=(N:Int):=by omega
 have Ch:=hd (show 0<N/\N<=2000 by have:=gZ.o.h12;have:=gZ.o.h1;have:=gZ.o.h2;omega);have b1:N<=4611686018427387904:=by have:=Ch.o;omega
 clear hN;have w1:=kg _ _ a1 b1;clear a1 b1;have y2:=gy cn.o iL.o 2 1;have y3:=gy cn.o iL.o 3 2;have y0:=(aa cn.o.1 0).trans (jU _ _ _ _)
 go_enter func113,ntmps113
 go_wp2_with fail
 go_quiet (fail)
 go_wp2_with fail
 clear y2 y3 y0 w1;have cn:=hd (cn.o.drewN nq);generalize W0.drewN nq=W0' at cn⊢;obtain⟨W0,rfl⟩:=ex W0';refine(bK cn.o HT.o (N:Int) (by have:=Ch.o;omega) (by have:=Ch.o;omega)).mono ?_;rintro e W1⟨r1,q1,Dv,Dw,rfl,h1⟩;obtain⟨x1,Bd,Be,rfl,rfl,bE,fP⟩:=Ae h1;clear h1;obtain⟨j1,rfl⟩: ∃j:Nat,r1=j:=⟨r1.toNat,by omega⟩;clear Dv Dw;have y1:=gy bE.o iL.o 1 0;have y2:=gy bE.o iL.o 2 1;have y3:=gy bE.o iL.o 3 2;have y4:=gy bE.o iL.o 4 3;have y5:=gy bE.o iL.o 5 4;have y6:=gy bE.o iL.o 6 5;have y7:=gy bE.o iL.o 7 6;have y8:=gy bE.o iL.o 8 7
 go_wp2_with fail
 clear y1 y2 y3 y4 y5 y6 y7 y8;refine(tW M _ (j1:Int) w0 W1 OY.o (Af.o _ bE.o.get).1 (by have:=gZ.o.h1;omega) (by have:=gZ.o.h2;omega)).mono ?_;rintro e Wb⟨u1,u2,rfl,s1,s2,hb⟩;obtain⟨A9,c9,rfl,f1⟩:=rA bE.o hb (fun W hW=>(Af.o W hW).1) s1;obtain⟨i7,c10,rfl,f2⟩:=rA bE.o hb (fun W hW=>(Af.o W hW).1) s2;have h9:=(((bE.o.below hb).and f1).and f2).box #[.slice A9 ((Sp.aM M (j1:Int)).getD cv).f0.length c9,.slice i7 ((Sp.aM M (j1:Int)).getD cv).f1.length c10] 40;clear s1 s2 f1 f2
 go_wp2_with fail
 obtain⟨T,hT⟩:=ex (((Sp.aM M (j1:Int)).getD cv));rw[<-hT]at h9⊢;have tD:=hd (show T.f0.length<=8/\T.f1.length<=8 by rw[hT];exact gZ.o.YL _);clear hT;obtain⟨R9,O6⟩: ∃R9:World->Prop,R9=fun V=>((R V/\bf V A9 T.f0)/\bf V i7 T.f1)/\V.heap[Wb.heap.size]? =some (.cells #[.slice A9 T.f0.length c9,.slice i7 T.f1.length c10] 40 (0,0)):=⟨_,rfl⟩
 have ir:=hd (show∀V,R9 V->((R V/\bf V A9 T.f0)/\bf V i7 T.f1)/\V.heap[Wb.heap.size]? =some (.cells #[.slice A9 T.f0.length c9,.slice i7 T.f1.length c10] 40 (0,0))from fun V hV=>by rw[O6]at hV;exact hV);rw[<-O6]at h9;have bw:=hd h9;clear h9 O6 hb;have Fx:=hd (HT.o.weak (fun V hV=>(ir.o V hV).1.1.1));have Qm:=hd (HE.o.weak (fun V hV=>(ir.o V hV).1.1.1));refine(jo bw.o Fx.o Qm.o (by have:=gZ.o.hL;omega) (by have:=gZ.o.Bg;omega) A9 c9 T.f0 (fun V hV=>(ir.o V hV).1.1.2) (by have:=tD.o;omega) height (by have u:=fP.o;have:=HH.o;unfold Up at u;omega) (by have u:=fP.o;have:=HB.o;unfold Up at u;omega) (by have u:=fP.o;have:=HB.o;unfold Up at u;omega)).mono ?_;rintro e W3⟨rfl,x3,qi,nZ,nu,h3⟩;have cC:=hd h3;have Gs:=hd (show height+T.f0.length<=x3.s.length/\x3.s.length<=x0.s.length+8/\x3.code.length<=x0.code.length+8/\x3.left=x0.left by have u:=fP.o;have:=tD.o;unfold Up at u;unfold Nd at nu;omega);clear h3 nu
 go_wp2_with fail
 refine(bY cC.o _ _ _ _ (by have:=Gs.o;have:=HB.o;omega)).mono ?_;rintro e W4⟨rfl,x4,yc,rV,oz,h4⟩;have bP:=hd h4;have gX:=hd (show Up 0 1 x3 x4 from oz);clear h4 oz;have t0:=(aa (ir.o _ bP.o.get).2 0).trans rfl;have t1:=(aa (ir.o _ bP.o.get).2 1).trans rfl
 go_wp2_with fail
 clear t0 t1;refine(lQ bP.o Fx.o A9 T.f0.length c9 (by have:=Gs.o;have u:=gX.o;unfold Up at u;omega) i7 c10 T.f1 (fun V hV=>(ir.o V hV).1.2) (by have:=tD.o;omega) (by have:=Gs.o;have u:=gX.o;have:=HB.o;unfold Up at u;omega)).mono ?_;rintro e W5⟨rfl,x5,ye,uW,pR,h5⟩
 go_wp2_with fail
 go_end0
 exact⟨rfl,x5,_,_,(by have:=Gs.o;have u:=gX.o;have:=tD.o;unfold Up at u;unfold Sw at pR;exact⟨by omega,by omega,by omega⟩),h5.weak (fun V hV=>(ir.o V hV).1.1.1)⟩
end Go.Proofs.YthehihjcpiadgaaGreat
