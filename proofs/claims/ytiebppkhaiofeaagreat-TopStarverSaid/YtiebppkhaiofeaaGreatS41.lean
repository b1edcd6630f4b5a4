/- Part of the proof of TopStarver: what functions of the program do. -/
import Derived.Test.YtiebppkhaiofeaaGreatS38
import Derived.Test.YtiebppkhaiofeaaGreatS39
import Derived.Test.YtiebppkhaiofeaaGreatS40
set_option maxHeartbeats 4000000
set_option maxRecDepth 100000
set_option linter.unusedVariables false
set_option linter.unusedSimpArgs false
namespace Go.Proofs.YtiebppkhaiofeaaGreat.K
open Go.RowKit Go.Proofs.YtiebppkhaiofeaaGreatW.PrintWords Go.Proofs.YtiebppkhaiofeaaGreat.S
attribute [local go_sem] World.cell?_alloc_some
open Go.ChangeMaps Go.MapKept
def runF (c:Cfg) (a:S.World×List Int×List S.Done) (e:Ent):S.World×List Int×List S.Done:=((a.1.step c e).1,a.2.1 ++ [(a.1.step c e).2.1],a.2.2 ++ (a.1.step c e).2.2)
def runL (c:Cfg) (l:List Ent):S.World×List Int×List S.Done:=l.foldl (runF c) (S.World.new c,[],[])
def ent0:Ent:=⟨0,0,0,0,0⟩
theorem runL_snoc (c:Cfg) (l:List Ent) {i:Nat} (h:i < l.length):runL c (l.take (i+1))=runF c (runL c (l.take i)) (l.getD i ent0):=by
 unfold runL
 rw[List.take_add_one,List.getElem?_eq_getElem h,List.foldl_append,List.getD_eq_getElem?_getD,List.getElem?_eq_getElem h]
 rfl
theorem step_done {c:Cfg} {s:S.World} (hc:c.check=0) (h1:WOk c s) (hs:s.steps≤1000000) (e:Ent):(s.step c e).2.2.length≤128:=by
 have h0:=h1.t.st
 have hd:=acts_ok hc h1 (by omega) e
 have hw:wrap64 (s.steps+1)=s.steps+1:=wrap_id (by omega) (by omega)
 unfold S.World.step
 simp only
 rw[hw]
 split
 ·simp
 ·split
  ·simp
  ·split
   ·simp
   ·have:=hd.don
    simpa using this
theorem runL_ok {c:Cfg} (hc:c.check=0) (l:List Ent) (hl:l.length≤900000):∀ i,i≤l.length->WOk c (runL c (l.take i)).1/\(runL c (l.take i)).1.steps=i/\(runL c (l.take i)).2.1.length=i/\(runL c (l.take i)).2.2.length≤128 * i
 | 0,_=>by
  have h:=wok_new hc
  simpa [runL,S.World.new] using h
 | i+1,h=>by
  obtain⟨h1,h2,h3,h4⟩:=runL_ok hc l hl i (by omega)
  rw[runL_snoc c l (by omega)]
  have hs:=wok_step hc h1 (by omega) (l.getD i ent0)
  have ht:=(tinv_step hc h1.t (by omega) (l.getD i ent0)).2.2
  have hdl:=step_done hc h1 (by omega) (l.getD i ent0)
  refine⟨hs,?_,?_,?_⟩
  ·show((runL c (l.take i)).1.step c (l.getD i ent0)).1.steps=_
   rw[ht,h2];omega
  ·show((runL c (l.take i)).2.1 ++ _).length=_
   rw[List.length_append,h3];rfl
  ·show((runL c (l.take i)).2.2 ++ _).length≤_
   rw[List.length_append];omega
structure RunC (c:Cfg) (a:S.World×List Int×List S.Done) (b q:Nat) (C:Nat->Nat) (w:Go.World):Prop where
 wld:WldAt c a.1 b (fun x=>C x=1) w
 q2:C q=2
 rows:∃ Ar cr Ad cd,w.heap[q]?=some (.cells #[.slice Ar a.2.1.length cr,.slice Ad a.2.2.length cd,.int .i64 0,.int .i64 0,.slice none 0 0,.slice none 0 0,.slice none 0 0] 69 (0,0)) /\
  OwnE intE (.slice Ar a.2.1.length cr) a.2.1 w/\OwnE doneE (.slice Ad a.2.2.length cd) a.2.2 w/\(∀ x∈foot (.slice Ar a.2.1.length cr),C x=3)/\∀ x∈foot (.slice Ad a.2.2.length cd),C x=4
section
variable {c:Cfg} {a:S.World×List Int×List S.Done} {b q:Nat} {C C':Nat->Nat} {w w' w3:Go.World} {G:Set_}
theorem RunC.keep (h:RunC c a b q C w) (hk:KS G w w') (hs:∀ x,x < w.heap.size->1≤C x->C' x=C x/\¬ G x):RunC c a b q C' w':=by
 obtain⟨Ar,cr,Ad,cd,h1,h2,h3,h4,h5⟩:=h.rows
 have hq:=hs q (blk_lt h1) (by rw[h.q2];omega)
 have f3:=fun x hx=>hs x (h2.lt x hx) (by rw[h4 x hx];omega)
 have f4:=fun x hx=>hs x (h3.lt x hx) (by rw[h5 x hx];omega)
 exact⟨h.wld.keep hk (fun x hx h=>by have h':C x=1:=h;have:=hs x hx (by omega);exact⟨this.1.trans h',this.2⟩),hq.1.trans h.q2,Ar,cr,Ad,cd,hk.at_ h1 hq.2,h2.ks hk (fun x hx=>(f3 x hx).2),h3.ks hk (fun x hx=>(f4 x hx).2),fun x hx=>(f3 x hx).1.trans (h4 x hx),fun x hx=>(f4 x hx).1.trans (h5 x hx)⟩
theorem RunC.below (h:RunC c a b q C w) (hb:Below w.heap.size w w'):RunC c a b q (rec_ C w 0) w':=h.keep (KS.below (fun _=>False) hb) (fun x hx _=>⟨rec_old hx,id⟩)
theorem RunC.step {s':S.World} (h:RunC c a b q C w) (hW:WldAt c s' b (gr (fun x=>C x=1) w) w') (hk:KS (fun x=>C x=1) w w'):RunC c (s',a.2) b q (rec_ C w 1) w':=by
 obtain⟨Ar,cr,Ad,cd,h1,h2,h3,h4,h5⟩:=h.rows
 have hq2:=h.q2
 refine⟨hW.keep (KS.refl (fun _=>False) _) (fun x _ hx=>⟨?_,id⟩),(rec_old (blk_lt h1)).trans hq2,Ar,cr,Ad,cd,hk.at_ h1 (by show ¬ C q=1;omega),h2.ks hk (fun x hx=>by have:=h4 x hx;show ¬ C x=1;omega),h3.ks hk (fun x hx=>by have:=h5 x hx;show ¬ C x=1;omega),fun x hx=>(rec_old (h2.lt x hx)).trans (h4 x hx),fun x hx=>(rec_old (h3.lt x hx)).trans (h5 x hx)⟩
 show rec_ C w 1 x=1
 rcases hx with hx | hx
 ·by_cases hl:x < w.heap.size
  ·rw[rec_old hl];exact hx
  ·exact rec_new (by omega)
 ·exact rec_new hx
def RunB (w:Go.World) (C:Nat->Nat) (wr:Go.World):Prop:=(∀ x,x < wr.heap.size->1≤C x->w.heap.size+2≤x)/\wr.heap[w.heap.size+1]?=some (.cells #[.slice none 0 0,.slice none 0 0,.int .i64 0,.int .i64 0,.slice none 0 0,.slice none 0 0,.slice none 0 0] 69 (0,0))/\Below w.heap.size w wr
theorem RunB.turn {w0:Go.World} (h:RunB w0 C w) (hk:KS (fun x=>1≤C x) w w') (k:Nat):RunB w0 (rec_ C w k) w':=by
 obtain⟨r2,r3,r4⟩:=h
 have hz:=r4.size
 have hlt:=blk_lt r3
 refine⟨fun x hx h=>?_,hk.at_ r3 (fun h=>by have:=r2 _ hlt h;omega),r4.trans ⟨hk.1,hk.2.1,hk.2.2.1,hk.2.2.2.1,fun i hi=>hk.2.2.2.2 i (by omega) (fun h=>by have:=r2 i (by omega) h;omega)⟩⟩
 by_cases hl:x < w.heap.size
 ·rw[rec_old hl] at h;exact r2 x hl h
 ·omega
theorem own_apart {α β:Type} {E:El α} {E':El β} {v v':Value} {xs:List α} {ys:List β} {W:Go.World} (hT:E.T≠E'.T) (h:OwnE E v xs W) (h':OwnE E' v' ys W):∀ x∈foot v,x∉foot v':=fun x hx hx'=>by
 rcases h.cases with ⟨rfl,-⟩ | ⟨g,cap,cur,rfl,hg,-⟩
 ·simp[foot_nil] at hx
 ·rcases h'.cases with ⟨rfl,-⟩ | ⟨g',cap',cur',rfl,hg',-⟩
  ·simp[foot_nil] at hx'
  ·simp only[foot_slice,List.mem_singleton] at hx hx'
   rw[<- hx,hx',hg'] at hg
   simp only[Option.some.injEq,Obj.cells.injEq] at hg
   exact hT hg.2.1.symm
theorem own_apart_blk {α:Type} {E:El α} {v:Value} {xs:List α} {W:Go.World} {g:Nat} {arr:Array Value} {T:TypeId} (h:OwnE E v xs W) (hb:W.heap[g]?=some (.cells arr T (0,0))) (hT:T≠E.T):g∉foot v:=fun hx=>by
 rcases h.cases with ⟨rfl,-⟩ | ⟨g',cap,cur,rfl,hg,-⟩
 ·simp[foot_nil] at hx
 ·simp only[foot_slice,List.mem_singleton] at hx
  rw[<- hx,hb] at hg
  simp only[Option.some.injEq,Obj.cells.injEq] at hg
  exact hT hg.2.1
theorem LinesV.ksO {n:S.Node} {v:Value} {B:Nat} {w w':Go.World} {g:Nat} {arr:Array Value} (h:LinesV n v B w) (hb:w.heap[g]?=some (.cells arr 69 (0,0))) (hk:KS (fun y=>y=g) w w'):LinesV n v B w':=by
 refine⟨h.1.imp fun ks k=>⟨k.1,k.2.1,k.2.2.ks hk fun x hx e=>?_⟩,h.2⟩
 exact own_apart_blk k.2.2 hb (by decide) (by have e':x=g:=e;rw[<- e'];exact hx)
theorem ActsV.ksO {n:S.Node} {v:Value} {B:Nat} {w w':Go.World} {g:Nat} {arr:Array Value} (h:ActsV n v B w) (hb:w.heap[g]?=some (.cells arr 69 (0,0))) (hk:KS (fun y=>y=g) w w'):ActsV n v B w':=by
 refine⟨h.1.imp fun ks k=>⟨k.1,k.2.1,k.2.2.ks hk fun x hx e=>?_⟩,h.2⟩
 exact own_apart_blk k.2.2 hb (by decide) (by have e':x=g:=e;rw[<- e'];exact hx)
theorem ShotV.ks1 {s:S.World} {Ap Ah Af:Option Addr} {np cp nh ch nf cf:Nat} {ps:List PlaceR} {B:Nat} {w w':Go.World} {g:Nat} {arr:Array Value} (h:ShotV s Ap Ah Af np cp nh ch nf cf ps B w) (hb:w.heap[g]?=some (.cells arr 69 (0,0))) (hk:KS (fun y=>y=g) w w'):ShotV s Ap Ah Af np cp nh ch nf cf ps B w':=by
 obtain⟨h1,h2,h3,h4,h5,h6,h7⟩:=h
 have ap:∀ {α:Type} {E:El α} {v:Value} {xs:List α},OwnE E v xs w->(69:TypeId)≠E.T->∀ x∈foot v,¬ x=g:=fun ho hT x hx e=>own_apart_blk ho hb hT (e ▸ hx)
 exact⟨h1.ks hk (ap h1 (by decide)),h2,h3,⟨h4.len,fun i hi=>by
  have:=h4.ok i hi
  exact⟨this.1,this.2.1,this.2.2.1.ksO hb hk,this.2.2.2.ksO hb hk⟩⟩,h5.ks hk (ap h5 (by decide)),h6.ks hk (ap h6 (by decide)),h7⟩
theorem ShotV.mono {s:S.World} {Ap Ah Af:Option Addr} {np cp nh ch nf cf:Nat} {ps:List PlaceR} {B B':Nat} {w:Go.World} (h:ShotV s Ap Ah Af np cp nh ch nf cf ps B w) (hB:B'≤B):ShotV s Ap Ah Af np cp nh ch nf cf ps B' w:=by
 obtain⟨h1,h2,h3,h4,h5⟩:=h
 exact⟨h1,h2,h3,⟨h4.len,fun i hi=>by
  have:=h4.ok i hi
  exact⟨this.1,this.2.1,⟨this.2.2.1.1,fun x hx=>Nat.le_trans hB (this.2.2.1.2 x hx)⟩,⟨this.2.2.2.1,fun x hx=>Nat.le_trans hB (this.2.2.2.2 x hx)⟩⟩⟩,h5⟩
theorem RunC.res {A A':Option Addr} {cr cr':Nat} {Ad:Value} {k:Int} (h:RunC c a b q C w) (hq:w.heap[q]?=some (.cells #[.slice A a.2.1.length cr,Ad,.int .i64 0,.int .i64 0,.slice none 0 0,.slice none 0 0,.slice none 0 0] 69 (0,0))) (hO:OwnE intE (.slice A' (a.2.1.length+1) cr') (a.2.1 ++ [k]) w3) (hk:KS (fun x=>x∈foot (.slice A a.2.1.length cr)) w w3) (hf:∀ x∈foot (.slice A' (a.2.1.length+1) cr'),x∈foot (.slice A a.2.1.length cr)∨w.heap.size≤x) :
  RunC c (a.1,a.2.1 ++ [k],a.2.2) b q (rec_ C w 3) (w3.setCell ⟨q,0,none⟩ (.slice A' (a.2.1.length+1) cr'))/\KS (fun x=>2≤C x) w (w3.setCell ⟨q,0,none⟩ (.slice A' (a.2.1.length+1) cr')):=by
 obtain⟨Ar,cr1,Ad1,cd,h1,h2,h3,h4,h5⟩:=h.rows
 rw[h1] at hq
 simp only[Option.some.injEq,Obj.cells.injEq,and_true] at hq
 have hqa:=congrArg Array.toList hq
 simp only[List.cons.injEq,Value.slice.injEq,and_true,true_and] at hqa
 obtain⟨⟨rfl,rfl⟩,hAd⟩:=hqa
 have hq2:=h.q2
 have hbl:=blk_lt h1
 have hk2:=KS.set (KS.refl (fun x=>x=q) w3) (.inl rfl) 0 (.slice A' (a.2.1.length+1) cr') (g:=q)
 have hF:KS (fun x=>C x=3∨x=q) w (w3.setCell ⟨q,0,none⟩ (.slice A' (a.2.1.length+1) cr')):=(hk.mono (fun x _ hx=>.inl (h4 x hx))).trans hk2 (fun x _ e=>.inr e)
 have hqf:q∉foot (.slice Ar a.2.1.length cr1):=fun e=>by have:=h4 q e;omega
 refine⟨⟨h.wld.keep hF (fun x hx h=>⟨(rec_old hx).trans h,fun e=>by have h':C x=1:=h;rcases e with e | e;omega;rw[e] at h';omega⟩),(rec_old hbl).trans hq2,A',cr',Ad1,cd,?_,?_,h3.ks hF (fun x hx e=>by have:=h5 x hx;rcases e with e | e;omega;rw[e] at this;omega),fun x hx=>?_,fun x hx=>(rec_old (h3.lt x hx)).trans (h5 x hx)⟩,hF.mono (fun x _ e=>by rcases e with e | e;show 2≤C x;omega;show 2≤C x;rw[e];omega)⟩
 ·have:=blk_set (hk.at_ h1 hqf) 0 (.slice A' (a.2.1.length+1) cr')
  refine this.trans ?_
  simp
 ·have:OwnE intE (.slice A' (a.2.1.length+1) cr') (a.2.1 ++ [k]) (w3.setCell ⟨q,0,none⟩ (.slice A' (a.2.1.length+1) cr')):=hO.ks hk2 (fun x hx e=>by
   have e':x=q:=e
   rcases hf x hx with k | k
   ·exact hqf (e' ▸ k)
   ·omega)
  simpa using this
 ·have hx':x∈foot (.slice A' (a.2.1.length+1) cr'):=by simpa using hx
  rcases hf x hx' with k | k
  ·rw[rec_old (h2.lt x k)];exact h4 x k
  ·exact rec_new k
theorem RunC.don {A A':Option Addr} {cd cd':Nat} {Ar:Value} {ds:List S.Done} (h:RunC c a b q C w) (hq:w.heap[q]?=some (.cells #[Ar,.slice A a.2.2.length cd,.int .i64 0,.int .i64 0,.slice none 0 0,.slice none 0 0,.slice none 0 0] 69 (0,0))) (hO:OwnE doneE (.slice A' (a.2.2.length+ds.length) cd') (a.2.2 ++ ds) w3) (hk:KS (fun x=>x∈foot (.slice A a.2.2.length cd)) w w3) (hf:∀ x∈foot (.slice A' (a.2.2.length+ds.length) cd'),x∈foot (.slice A a.2.2.length cd)∨w.heap.size≤x) :
  RunC c (a.1,a.2.1,a.2.2 ++ ds) b q (rec_ C w 4) (w3.setCell ⟨q,1,none⟩ (.slice A' (a.2.2.length+ds.length) cd'))/\KS (fun x=>2≤C x) w (w3.setCell ⟨q,1,none⟩ (.slice A' (a.2.2.length+ds.length) cd')):=by
 obtain⟨Ar1,cr1,Ad1,cd1,h1,h2,h3,h4,h5⟩:=h.rows
 rw[h1] at hq
 simp only[Option.some.injEq,Obj.cells.injEq,and_true] at hq
 have hqa:=congrArg Array.toList hq
 simp only[List.cons.injEq,Value.slice.injEq,and_true,true_and] at hqa
 obtain⟨hAr,rfl,rfl⟩:=hqa
 have hq2:=h.q2
 have hbl:=blk_lt h1
 have hk2:=KS.set (KS.refl (fun x=>x=q) w3) (.inl rfl) 1 (.slice A' (a.2.2.length+ds.length) cd') (g:=q)
 have hF:KS (fun x=>C x=4∨x=q) w (w3.setCell ⟨q,1,none⟩ (.slice A' (a.2.2.length+ds.length) cd')):=(hk.mono (fun x _ hx=>.inl (h5 x hx))).trans hk2 (fun x _ e=>.inr e)
 have hqf:q∉foot (.slice Ad1 a.2.2.length cd1):=fun e=>by have:=h5 q e;omega
 refine⟨⟨h.wld.keep hF (fun x hx h=>⟨(rec_old hx).trans h,fun e=>by have h':C x=1:=h;rcases e with e | e;omega;rw[e] at h';omega⟩),(rec_old hbl).trans hq2,Ar1,cr1,A',cd',?_,h2.ks hF (fun x hx e=>by have:=h4 x hx;rcases e with e | e;omega;rw[e] at this;omega),?_,fun x hx=>(rec_old (h2.lt x hx)).trans (h4 x hx),fun x hx=>?_⟩,hF.mono (fun x _ e=>by rcases e with e | e;show 2≤C x;omega;show 2≤C x;rw[e];omega)⟩
 ·have:=blk_set (hk.at_ h1 hqf) 1 (.slice A' (a.2.2.length+ds.length) cd')
  refine this.trans ?_
  simp
 ·have:OwnE doneE (.slice A' (a.2.2.length+ds.length) cd') (a.2.2 ++ ds) (w3.setCell ⟨q,1,none⟩ (.slice A' (a.2.2.length+ds.length) cd')):=hO.ks hk2 (fun x hx e=>by
   have e':x=q:=e
   rcases hf x hx with k | k
   ·exact hqf (e' ▸ k)
   ·omega)
  simpa using this
 ·have hx':x∈foot (.slice A' (a.2.2.length+ds.length) cd'):=by simpa using hx
  rcases hf x hx' with k | k
  ·rw[rec_old (h3.lt x k)];exact h5 x k
  ·exact rec_new k
end
theorem run_any (c:Cfg) (hc:c.check=0) (l:List Ent) (hl:l.length≤900000) {A:Option Addr} {lc:Nat} {w:Go.World} (hR:OwnE entE (.slice A l.length lc) l w):Calls Tryz.prog 14 #[cfgV c,.slice A l.length lc] w fun e w'=>∃ Ar cr Ad cd Ap Ah Af np cp nh ch nf cf ps,e=.returned (.tuple #[.agg #[.slice Ar (runL c l).2.1.length cr,.slice Ad (runL c l).2.2.length cd,.int .i64 (runL c l).1.steps,.int .i64 (runL c l).1.ticks,.slice Ap np cp,.slice Ah nh ch,.slice Af nf cf],.int .i64 0])/\OwnE intE (.slice Ar (runL c l).2.1.length cr) (runL c l).2.1 w'/\OwnE doneE (.slice Ad (runL c l).2.2.length cd) (runL c l).2.2 w'/\ShotV (runL c l).1 Ap Ah Af np cp nh ch nf cf ps w.heap.size w'/\Below w.heap.size w w':=by
 have NW:=AS (fun X=>worldNew_any c hc X)
 have OK:=AS (fun i hi=>runL_ok hc l hl i hi)
 have HC:=AS hc
 have RR:=AS hR
 have BN:=AS (blk_alloc (blk_new w (.cells #[.int .i64 c.nodes,.int .i64 c.blocks,.int .i64 c.tokens,.int .i64 c.sets,.int .i64 c.ways,.int .i64 c.cap,.int .i64 c.wait,.int .i64 c.tries,.int .i64 c.policy] 23)) (.cells #[.slice none 0 0,.slice none 0 0,.int .i64 0,.int .i64 0,.slice none 0 0,.slice none 0 0,.slice none 0 0] 69))
 have BR:=AS (show((w.alloc (.cells #[.int .i64 c.nodes,.int .i64 c.blocks,.int .i64 c.tokens,.int .i64 c.sets,.int .i64 c.ways,.int .i64 c.cap,.int .i64 c.wait,.int .i64 c.tries,.int .i64 c.policy] 23)).alloc (.cells #[.slice none 0 0,.slice none 0 0,.int .i64 0,.int .i64 0,.slice none 0 0,.slice none 0 0,.slice none 0 0] 69)).heap[w.heap.size+1]?=some (.cells #[.slice none 0 0,.slice none 0 0,.int .i64 0,.int .i64 0,.slice none 0 0,.slice none 0 0,.slice none 0 0] 69 (0,0)) from blk_newE _ _ (by rw[World.size_alloc]))
 have B0:=AS (below_alloc (below_alloc (Below.refl w.heap.size w) (.cells #[.int .i64 c.nodes,.int .i64 c.blocks,.int .i64 c.tokens,.int .i64 c.sets,.int .i64 c.ways,.int .i64 c.cap,.int .i64 c.wait,.int .i64 c.tries,.int .i64 c.policy] 23)) (.cells #[.slice none 0 0,.slice none 0 0,.int .i64 0,.int .i64 0,.slice none 0 0,.slice none 0 0,.slice none 0 0] 69))
 have SZ:=AS (show((w.alloc (.cells #[.int .i64 c.nodes,.int .i64 c.blocks,.int .i64 c.tokens,.int .i64 c.sets,.int .i64 c.ways,.int .i64 c.cap,.int .i64 c.wait,.int .i64 c.tries,.int .i64 c.policy] 23)).alloc (.cells #[.slice none 0 0,.slice none 0 0,.int .i64 0,.int .i64 0,.slice none 0 0,.slice none 0 0,.slice none 0 0] 69)).heap.size=w.heap.size+2 from by rw[World.size_alloc,World.size_alloc])
 clear hR hc
 simp only[cfgV] at NW ⊢
 go_enter Tryz.func14,Tryz.ntmps14
 go_upto_region 1 with fail
 generalize (w.alloc (.cells #[.int .i64 c.nodes,.int .i64 c.blocks,.int .i64 c.tokens,.int .i64 c.sets,.int .i64 c.ways,.int .i64 c.cap,.int .i64 c.wait,.int .i64 c.tries,.int .i64 c.policy] 23)).alloc (.cells #[.slice none 0 0,.slice none 0 0,.int .i64 0,.int .i64 0,.slice none 0 0,.slice none 0 0,.slice none 0 0] 69)=W at BN BR B0 SZ ⊢
 obtain⟨e0_,e1_,e2_,e3_,e4_,e5_,e6_,e7_,e8_⟩:=(show W.cell? ⟨w.heap.size,0,none⟩=some (.int .i64 c.nodes)/\W.cell? ⟨w.heap.size,1,none⟩=some (.int .i64 c.blocks)/\W.cell? ⟨w.heap.size,2,none⟩=some (.int .i64 c.tokens)/\W.cell? ⟨w.heap.size,3,none⟩=some (.int .i64 c.sets)/\W.cell? ⟨w.heap.size,4,none⟩=some (.int .i64 c.ways)/\W.cell? ⟨w.heap.size,5,none⟩=some (.int .i64 c.cap)/\W.cell? ⟨w.heap.size,6,none⟩=some (.int .i64 c.wait)/\W.cell? ⟨w.heap.size,7,none⟩=some (.int .i64 c.tries)/\W.cell? ⟨w.heap.size,8,none⟩=some (.int .i64 c.policy) from⟨cw BN.out 0,cw BN.out 1,cw BN.out 2,cw BN.out 3,cw BN.out 4,cw BN.out 5,cw BN.out 6,cw BN.out 7,cw BN.out 8⟩)
 go_wp2_with fail
 refine(NW.out W).mono ?_
 rintro e w1 ⟨b,rfl,hW1,hb1⟩
 have W1:=AS hW1
 have H1:=AS hb1
 clear hW1 hb1 NW e0_ e1_ e2_ e3_ e4_ e5_ e6_ e7_ e8_
 go_upto_region 5 with fail
 have R0:=AS (show(∃ C,RunC c (runL c (l.take 0)) b w1.heap.size C (w1.alloc (.cells #[.slice none 0 0,.slice none 0 0,.int .i64 0,.int .i64 0,.slice none 0 0,.slice none 0 0,.slice none 0 0] 69))/\RunB w C (w1.alloc (.cells #[.slice none 0 0,.slice none 0 0,.int .i64 0,.int .i64 0,.slice none 0 0,.slice none 0 0,.slice none 0 0] 69))) from by
  have hz1:=SZ.out
  have hz2:=H1.out.size
  have hb:=below_alloc (Below.refl w1.heap.size w1) (.cells #[.slice none 0 0,.slice none 0 0,.int .i64 0,.int .i64 0,.slice none 0 0,.slice none 0 0,.slice none 0 0] 69)
  refine⟨fun x=>if x=w1.heap.size then 2 else if W.heap.size≤x/\x < w1.heap.size then 1 else 0,⟨W1.out.keep (KS.below (fun _=>False) hb) (fun x hx h=>⟨?_,id⟩),if_pos rfl,none,0,none,0,blk_new w1 _,OwnE.nil _,OwnE.nil _,fun x hx=>by simp[foot_nil] at hx,fun x hx=>by simp[foot_nil] at hx⟩,⟨fun x hx h1=>?_,blk_alloc (blk_below BR.out H1.out) _,below_alloc (B0.out.trans (H1.out.mono (by omega))) _⟩⟩
  ·have h':W.heap.size≤x:=h
   show(if x=w1.heap.size then 2 else if W.heap.size≤x/\x < w1.heap.size then 1 else 0)=1
   rw[if_neg (by omega),if_pos ⟨h',hx⟩]
  ·by_cases e0:x=w1.heap.size
   ·omega
   ·by_cases e1:W.heap.size≤x/\x < w1.heap.size
    ·omega
    ·simp only[if_neg e0,if_neg e1] at h1;omega)
 generalize w1.alloc (.cells #[.slice none 0 0,.slice none 0 0,.int .i64 0,.int .i64 0,.slice none 0 0,.slice none 0 0,.slice none 0 0] 69)=W2 at R0 ⊢
 generalize w1.heap.size=q at R0 ⊢
 go_wp2_with fail
 go_loopw [10,11,12,24] (fun v10 v11 v12 v24 wr=>∃ i:Nat,v24=.int .i64 i/\i≤l.length/\Aside0 (∃ C,RunC c (runL c (l.take i)) b q C wr/\RunB w C wr)) (fun _ _ _ v24 _=>l.length+1 - (intOf v24).toNat)
 case atStart=>exact⟨0,rfl,by omega,R0⟩
 case round =>
  obtain⟨i,rfl,hi,R⟩:=hrel
  obtain⟨C,r1,rB⟩:=R.out
  have rB':=rB
  obtain⟨-,-,r4⟩:=rB'
  by_cases hcc:i < l.length
  ·have q0:(0:Int)≤(i:Int):=by omega
   have q1:(i:Int) < (l.length:Int):=by omega
   obtain⟨gl,cl,e,-,-,hgl,hcell⟩:=own_some RR.out hcc
   injection e with e1 e2 e3
   subst e1 e3
   have m0:wr.cell? ⟨gl,i * 5+0,none⟩=some (.int .i64 (l.getD i ent0).kind):=((bcell r4).1 gl _ hgl).trans ((hcell 0 (by decide)).trans rfl)
   have m1:wr.cell? ⟨gl,i * 5+1,none⟩=some (.int .i64 (l.getD i ent0).a):=((bcell r4).1 gl _ hgl).trans ((hcell 1 (by decide)).trans rfl)
   have m2:wr.cell? ⟨gl,i * 5+2,none⟩=some (.int .i64 (l.getD i ent0).b):=((bcell r4).1 gl _ hgl).trans ((hcell 2 (by decide)).trans rfl)
   have m3:wr.cell? ⟨gl,i * 5+3,none⟩=some (.int .i64 (l.getD i ent0).c):=((bcell r4).1 gl _ hgl).trans ((hcell 3 (by decide)).trans rfl)
   have m4:wr.cell? ⟨gl,i * 5+4,none⟩=some (.int .i64 (l.getD i ent0).d):=((bcell r4).1 gl _ hgl).trans ((hcell 4 (by decide)).trans rfl)
   have m0':wr.cell? ⟨gl,i * 5,none⟩=some (.int .i64 (l.getD i ent0).kind):=m0
   have ok:=OK.out i hi
   have SN:=AS (runL_snoc c l hcc)
   have ENX:=AS (show ∃ en,l.getD i ent0=en from⟨_,rfl⟩)
   obtain⟨en,hen⟩:=ENX.out
   rw[hen] at m0 m0' m1 m2 m3 m4
   have SN:=AS (show runL c (l.take (i+1))=runF c (runL c (l.take i)) en from by rw[SN.out,hen])
   clear hen ENX hcell hgl m0
   obtain⟨k_,a_,b_,c_,d_⟩:=en
   have RB:=AS (r1.below (below_alloc (Below.refl wr.heap.size wr) (.cells #[.int .i64 k_,.int .i64 a_,.int .i64 b_,.int .i64 c_,.int .i64 d_] 33)))
   have ST:=AS (worldStep_any (e:=⟨k_,a_,b_,c_,d_⟩) RB.out.wld (WOk.bounds HC.out ok.1 (by have:=ok.2.1;omega) rfl rfl rfl))
   have RX:=AS (show RunB w C wr from rB)
   have OKX:=AS ok
   simp only[entV] at ST
   clear r1 r4 rB ok
   simp only at m0' m1 m2 m3 m4
   go_wp2_with fail
   refine ST.out.mono ?_
   rintro e w5 ⟨Ad5,n5,cp5,rfl,hW5,hO5,hk5⟩
   have W5:=AS (And.intro hW5 (And.intro hO5 hk5))
   clear hW5 hO5 hk5 ST m0' m1 m2 m3 m4
   have hrl:=OKX.out.2.2.1
   have hdl:=OKX.out.2.2.2
   have hs1:=W5.out.2.2.size
   have RX1:=AS (And.intro (RB.out.step W5.out.1 W5.out.2.2) ((RX.out.turn (KS.below _ (below_alloc (Below.refl wr.heap.size wr) (.cells #[.int .i64 k_,.int .i64 a_,.int .i64 b_,.int .i64 c_,.int .i64 d_] 33))) 0).turn (W5.out.2.2.mono (fun x _ h=>by have h':rec_ C wr 0 x=1:=h;show 1≤rec_ C wr 0 x;omega)) 1))
   have SN2:=SN.out
   generalize rec_ (rec_ C wr 0) (wr.alloc (.cells #[.int .i64 k_,.int .i64 a_,.int .i64 b_,.int .i64 c_,.int .i64 d_] 33)) 1=C5 at RX1
   unfold runF at SN2
   have hdk:=step_done HC.out OKX.out.1 (by have:=OKX.out.2.1;omega) ⟨k_,a_,b_,c_,d_⟩
   generalize (runL c (l.take i)).1.step c ⟨k_,a_,b_,c_,d_⟩=ST at RX1 W5 SN2 hdk ⊢
   obtain⟨s',rk,dk⟩:=ST
   generalize (runL c (l.take i)).2=rd at RX1 SN2 hrl hdl
   obtain⟨rs,ds⟩:=rd
   have SN3:=AS SN2
   clear SN2
   have hdk:dk.length≤128:=hdk
   obtain⟨Ar,cr,Ad,cd,h1,h2,h3,h4,h5⟩:=RX1.out.1.rows
   have k0:=cw h1 0 (v:=.slice Ar rs.length cr)
   have OA:=AS (show OwnE intE (.slice Ar rs.length cr) rs (w5.alloc (.cells #[.int .i64 rk] 3)) from h2.ks (KS.below (fun _=>False) (below_alloc (Below.refl _ _) _)) (fun _ _=>id))
   have RA:=AS (show RowE intE (w5.alloc (.cells #[.int .i64 rk] 3)) (some ⟨w5.heap.size,0,none⟩) [rk] from rowE_one (E:=intE) (x:=rk) (blk_new w5 (.cells #[.int .i64 rk] 3)))
   have RD:=AS (RX1.out.1.below (below_alloc (Below.refl w5.heap.size w5) (.cells #[.int .i64 rk] 3)))
   have Q1:=AS (blk_alloc h1 (.cells #[.int .i64 rk] 3))
   have F3:=AS h4
   have FIR:=AS (show ∀ v1 w6,OwnE intE v1 (rs ++ [rk]) w6->Keeps (foot (.slice Ar rs.length cr)) (w5.alloc (.cells #[.int .i64 rk] 3)) w6->(foot v1=foot (.slice Ar rs.length cr)∨foot v1=[(w5.alloc (.cells #[.int .i64 rk] 3)).heap.size])->∃ A3 k3,v1=.slice A3 (rs.length+1) k3/\w6.frozen? ⟨q,0,none⟩=false/\w6.cell? ⟨q,0,none⟩=some (.slice Ar rs.length cr)/\KS (fun x=>x∈foot (.slice Ar rs.length cr)∨x=q) (w5.alloc (.cells #[.int .i64 rk] 3)) (w6.setCell ⟨q,0,none⟩ (.slice A3 (rs.length+1) k3))/\RunC c (s',rs ++ [rk],ds) b q (rec_ (rec_ C5 w5 0) (w5.alloc (.cells #[.int .i64 rk] 3)) 3) (w6.setCell ⟨q,0,none⟩ (.slice A3 (rs.length+1) k3))/\KS (fun x=>2≤rec_ C5 w5 0 x) (w5.alloc (.cells #[.int .i64 rk] 3)) (w6.setCell ⟨q,0,none⟩ (.slice A3 (rs.length+1) k3)) from by
    intro v1 w6 hO hK hf
    have hk3:KS (fun x=>x∈foot (.slice Ar rs.length cr)) (w5.alloc (.cells #[.int .i64 rk] 3)) w6:=KS.keeps hK
    obtain⟨A3,k3,hv,-⟩:=hO.row
    have hv':v1=.slice A3 (rs.length+1) k3:=by rw[hv];simp
    subst hv'
    have Y1:=hk3.at_ Q1.out (fun e=>by have h6:=F3.out q e;have h7:=RX1.out.1.q2;omega)
    have h9:=RD.out.res (A:=Ar) (cr:=cr) (A':=A3) (cr':=k3) (k:=rk) Q1.out hO hk3 (fun x hx=>by
     rcases hf with e | e
     ·exact .inl (by rw[e] at hx;exact hx)
     ·exact .inr (by rw[e] at hx;simp only[List.mem_singleton] at hx;omega))
    exact⟨A3,k3,rfl,blk_frozen Y1 0,cw Y1 0,KS.set (F:=fun x=>x∈foot (.slice Ar rs.length cr)∨x=q) (hk3.mono (fun _ _ h=>.inl h)) (g:=q) (.inl (.inr rfl)) 0 _,h9.1,h9.2⟩)
   have HRL:=AS (And.intro hrl hdl)
   clear hrl hdl
   have O5:=AS W5.out.2.1
   have AP1:=AS (own_apart (E:=doneE) (E':=intE) (by decide) W5.out.2.1 h2)
   have AP2:=AS (own_apart_blk W5.out.2.1 h1 (by decide))
   clear h1 h2 h3 h4 h5
   go_upto_region 10 with (first | (at_builtin;refine list_appE (E:=intE) (xs:=rs) (ys:=[rk]) (by kernel_rfl) _ _ rfl rfl rfl rfl (by exact OA.out) (by exact RA.out) (by have h6:rs.length=i:=HRL.out.1;show _ * 8≤_;simp;omega) ?_;intro v1 w6 hO hK hf;obtain⟨A3,k3,rfl,y2,y3,hFK,hFI⟩:=FIR.out v1 w6 hO hK hf;have FI:=AS hFI;have FIK:=AS hFK;clear hO hK hf hFI hFK) | fail)
   have hn5:n5=dk.length:=by obtain⟨A,c,e,-⟩:=O5.out.row;injection e
   have HDK:=AS hn5
   have HDL:=AS hdk
   have RX7:=AS (And.intro FI.out.1 ((RX1.out.2.turn (KS.below _ (below_alloc (Below.refl w5.heap.size w5) (.cells #[.int .i64 rk] 3))) 0).turn (FI.out.2.mono (fun x _ h=>by have h':2≤rec_ C5 w5 0 x:=h;show 1≤rec_ C5 w5 0 x;omega)) 3))
   have O7:=AS (show OwnE doneE (.slice Ad5 n5 cp5) dk (w6.setCell ⟨q,0,none⟩ (.slice A3 (rs.length+1) k3)) from(O5.out.ks (KS.below (fun _=>False) (below_alloc (Below.refl _ _) _)) (fun _ _=>id)).ks (G:=fun x=>x∈foot (.slice Ar rs.length cr)∨x=q) FIK.out (fun x hx e=>by
    rcases e with e | e
    ·exact AP1.out x hx e
    ·exact AP2.out (by rw[<- e];exact hx)))
   generalize rec_ (rec_ C5 w5 0) (w5.alloc (.cells #[.int .i64 rk] 3)) 3=C7 at RX7
   generalize w6.setCell ⟨q,0,none⟩ (.slice A3 (rs.length+1) k3)=w7 at RX7 O7 ⊢
   clear FI FIK y2 y3 k0 hn5 hdk
   obtain⟨Ar7,cr7,Ad7,cd7,g1,g2,g3,g4,g5⟩:=RX7.out.1.rows
   have k1_:=cw g1 1 (v:=.slice Ad7 ds.length cd7)
   have OA2:=AS (show OwnE doneE (.slice Ad7 ds.length cd7) ds w7 from g3)
   have RA2:=AS (show RowE doneE w7 Ad5 dk from by
    obtain⟨A,c,e,hr,-⟩:=O7.out.row
    injection e with e1 e2 e3
    subst e1
    exact hr)
   have FID:=AS (show ∀ v1 w8,OwnE doneE v1 (ds ++ dk) w8->Keeps (foot (.slice Ad7 ds.length cd7)) w7 w8->(foot v1=foot (.slice Ad7 ds.length cd7)∨foot v1=[w7.heap.size])->∃ A4 k4,v1=.slice A4 (ds.length+dk.length) k4/\w8.frozen? ⟨q,1,none⟩=false/\w8.cell? ⟨q,1,none⟩=some (.slice Ad7 ds.length cd7)/\RunC c (s',rs ++ [rk],ds ++ dk) b q (rec_ C7 w7 4) (w8.setCell ⟨q,1,none⟩ (.slice A4 (ds.length+dk.length) k4))/\KS (fun x=>2≤C7 x) w7 (w8.setCell ⟨q,1,none⟩ (.slice A4 (ds.length+dk.length) k4)) from by
    intro v1 w8 hO hK hf
    have hk3:KS (fun x=>x∈foot (.slice Ad7 ds.length cd7)) w7 w8:=KS.keeps hK
    obtain⟨A4,k4,hv,-⟩:=hO.row
    have hv':v1=.slice A4 (ds.length+dk.length) k4:=by rw[hv];simp
    subst hv'
    have Y1:=hk3.at_ g1 (fun e=>by have h6:=g5 q e;have h7:=RX7.out.1.q2;omega)
    have h9:=RX7.out.1.don (A:=Ad7) (cd:=cd7) (A':=A4) (cd':=k4) (ds:=dk) g1 hO hk3 (fun x hx=>by
     rcases hf with e | e
     ·exact .inl (by rw[e] at hx;exact hx)
     ·exact .inr (by rw[e] at hx;simp only[List.mem_singleton] at hx;omega))
    exact⟨A4,k4,rfl,blk_frozen Y1 1,cw Y1 1,h9.1,h9.2⟩)
   clear g1 g2 g3 g4 g5
   go_wp2_with (first | (at_builtin;refine list_appE (E:=doneE) (xs:=ds) (ys:=dk) (by kernel_rfl) _ _ rfl rfl rfl HDK.out (by exact OA2.out) (by exact RA2.out) (by have h6:ds.length≤128 * i:=HRL.out.2;have h7:=HDL.out;show _ * 56≤_;omega) ?_;intro v1 w8 hO hK hf;obtain⟨A4,k4,rfl,y2,y3,hFI⟩:=FID.out v1 w8 hO hK hf;have FI2:=AS hFI;clear hO hK hf hFI) | fail)
   go_roundw
   case rel =>
    refine⟨i+1,by go_num,by omega,⟨⟨_,?_,RX7.out.2.turn (FI2.out.2.mono (fun x _ h=>by have h':2≤C7 x:=h;show 1≤C7 x;omega)) 4⟩⟩⟩
    rw[SN3.out]
    exact FI2.out.1
   case measure=>simp[intOf];omega
  ·have hin:i=l.length:=by omega
   subst hin
   have e1:l.take l.length=l:=List.take_length
   rw[e1] at r1
   have ok:=OK.out l.length (Nat.le_refl _)
   rw[e1] at ok
   have SH:=AS (worldShot_any r1.wld ok.1 HC.out)
   have RX:=AS (And.intro r1 rB)
   generalize hrle:runL c l=rl at RX SH
   obtain⟨s,rs,ds⟩:=rl
   have HRLE:=AS hrle
   clear hrle
   clear r1 rB r4 ok e1
   go_wp2_with fail
   refine SH.out.mono ?_
   rintro e w5 ⟨Ap,Ah,Af,np,cp,nh,ch,nf,cf,ps,rfl,hS,hb5⟩
   have S5:=AS hS
   have H5:=AS hb5
   have RC:=AS (RX.out.1.below hb5)
   have RBB:=AS (RX.out.2.turn (KS.below _ hb5) 0)
   clear hS hb5
   simp only[shotV]
   obtain⟨Ar,cr,Ad,cd,h1,h2,h3,h4,h5⟩:=RC.out.rows
   have hrq:w.heap.size+1≠q:=fun e=>by
    have:=RBB.out.1 q (blk_lt h1) (by rw[RC.out.q2];omega)
    omega
   have Q5:=AS h1
   have OR:=AS h2
   have OD:=AS h3
   have R5:=AS RBB.out.2.1
   have k0_:=cw h1 0 (v:=.slice Ar rs.length cr)
   have k1_:=cw h1 1 (v:=.slice Ad ds.length cd)
   have k2_:=cw h1 2 (v:=.int .i64 0)
   have k3_:=cw h1 3 (v:=.int .i64 0)
   have k4_:=cw h1 4 (v:=.slice none 0 0)
   have k5_:=cw h1 5 (v:=.slice none 0 0)
   have k6_:=cw h1 6 (v:=.slice none 0 0)
   have z0_:=blk_frozen h1 0
   have z1_:=blk_frozen h1 1
   have z2_:=blk_frozen h1 2
   have z3_:=blk_frozen h1 3
   have z4_:=blk_frozen h1 4
   have z5_:=blk_frozen h1 5
   have z6_:=blk_frozen h1 6
   clear h1 h2 h3 h4 h5
   go_upto_region 13 with fail
   have Q6:=AS (show((((((w5).setCell ⟨q,2,none⟩ (.int .i64 s.steps)).setCell ⟨q,3,none⟩ (.int .i64 s.ticks)).setCell ⟨q,4,none⟩ (.slice Ap np cp)).setCell ⟨q,5,none⟩ (.slice Ah nh ch)).setCell ⟨q,6,none⟩ (.slice Af nf cf)).heap[q]?=some (.cells #[.slice Ar rs.length cr,.slice Ad ds.length cd,.int .i64 s.steps,.int .i64 s.ticks,.slice Ap np cp,.slice Ah nh ch,.slice Af nf cf] 69 (0,0)) from(by
    have q2:=blk_set Q5.out 2 (.int .i64 s.steps)
    have q3:=blk_set q2 3 (.int .i64 s.ticks)
    have q4:=blk_set q3 4 (.slice Ap np cp)
    have q5:=blk_set q4 5 (.slice Ah nh ch)
    have q6:=blk_set q5 6 (.slice Af nf cf)
    exact blk_as q6 (by simp)))
   have K6:=AS (show KS (fun y=>y=q) w5 ((((((w5).setCell ⟨q,2,none⟩ (.int .i64 s.steps)).setCell ⟨q,3,none⟩ (.int .i64 s.ticks)).setCell ⟨q,4,none⟩ (.slice Ap np cp)).setCell ⟨q,5,none⟩ (.slice Ah nh ch)).setCell ⟨q,6,none⟩ (.slice Af nf cf)) from(by repeat (with_reducible first | refine KS.set1 ?_ _ _ | exact KS.refl _ _)))
   have R6:=AS (K6.out.at_ R5.out hrq)
   generalize (((((w5).setCell ⟨q,2,none⟩ (.int .i64 s.steps)).setCell ⟨q,3,none⟩ (.int .i64 s.ticks)).setCell ⟨q,4,none⟩ (.slice Ap np cp)).setCell ⟨q,5,none⟩ (.slice Ah nh ch)).setCell ⟨q,6,none⟩ (.slice Af nf cf)=W6 at Q6 K6 R6 ⊢
   clear k0_ z0_ k1_ z1_ k2_ z2_ k3_ z3_ k4_ z4_ k5_ z5_ k6_ z6_
   have k0_:=cw Q6.out 0 (v:=.slice Ar rs.length cr)
   have k1_:=cw Q6.out 1 (v:=.slice Ad ds.length cd)
   have k2_:=cw Q6.out 2 (v:=.int .i64 s.steps)
   have k3_:=cw Q6.out 3 (v:=.int .i64 s.ticks)
   have k4_:=cw Q6.out 4 (v:=.slice Ap np cp)
   have k5_:=cw Q6.out 5 (v:=.slice Ah nh ch)
   have k6_:=cw Q6.out 6 (v:=.slice Af nf cf)
   have m0_:=cw R6.out 0 (v:=.slice none 0 0)
   have m1_:=cw R6.out 1 (v:=.slice none 0 0)
   have m2_:=cw R6.out 2 (v:=.int .i64 0)
   have m3_:=cw R6.out 3 (v:=.int .i64 0)
   have m4_:=cw R6.out 4 (v:=.slice none 0 0)
   have m5_:=cw R6.out 5 (v:=.slice none 0 0)
   have m6_:=cw R6.out 6 (v:=.slice none 0 0)
   have z0_:=blk_frozen R6.out 0
   have z1_:=blk_frozen R6.out 1
   have z2_:=blk_frozen R6.out 2
   have z3_:=blk_frozen R6.out 3
   have z4_:=blk_frozen R6.out 4
   have z5_:=blk_frozen R6.out 5
   have z6_:=blk_frozen R6.out 6
   go_wp2
   have R7:=AS (show((((((((W6).setCell ⟨w.heap.size+1,0,none⟩ (.slice Ar rs.length cr)).setCell ⟨w.heap.size+1,1,none⟩ (.slice Ad ds.length cd)).setCell ⟨w.heap.size+1,2,none⟩ (.int .i64 s.steps)).setCell ⟨w.heap.size+1,3,none⟩ (.int .i64 s.ticks)).setCell ⟨w.heap.size+1,4,none⟩ (.slice Ap np cp)).setCell ⟨w.heap.size+1,5,none⟩ (.slice Ah nh ch)).setCell ⟨w.heap.size+1,6,none⟩ (.slice Af nf cf)).heap[w.heap.size+1]?=some (.cells #[.slice Ar rs.length cr,.slice Ad ds.length cd,.int .i64 s.steps,.int .i64 s.ticks,.slice Ap np cp,.slice Ah nh ch,.slice Af nf cf] 69 (0,0)) from(by
    have q1:=blk_set R6.out 0 (.slice Ar rs.length cr)
    have q2:=blk_set q1 1 (.slice Ad ds.length cd)
    have q3:=blk_set q2 2 (.int .i64 s.steps)
    have q4:=blk_set q3 3 (.int .i64 s.ticks)
    have q5:=blk_set q4 4 (.slice Ap np cp)
    have q6:=blk_set q5 5 (.slice Ah nh ch)
    have q7:=blk_set q6 6 (.slice Af nf cf)
    exact blk_as q7 (by simp)))
   have K7:=AS (show KS (fun y=>y=w.heap.size+1) W6 ((((((((W6).setCell ⟨w.heap.size+1,0,none⟩ (.slice Ar rs.length cr)).setCell ⟨w.heap.size+1,1,none⟩ (.slice Ad ds.length cd)).setCell ⟨w.heap.size+1,2,none⟩ (.int .i64 s.steps)).setCell ⟨w.heap.size+1,3,none⟩ (.int .i64 s.ticks)).setCell ⟨w.heap.size+1,4,none⟩ (.slice Ap np cp)).setCell ⟨w.heap.size+1,5,none⟩ (.slice Ah nh ch)).setCell ⟨w.heap.size+1,6,none⟩ (.slice Af nf cf)) from(by repeat (with_reducible first | refine KS.set1 ?_ _ _ | exact KS.refl _ _)))
   generalize (((((((W6).setCell ⟨w.heap.size+1,0,none⟩ (.slice Ar rs.length cr)).setCell ⟨w.heap.size+1,1,none⟩ (.slice Ad ds.length cd)).setCell ⟨w.heap.size+1,2,none⟩ (.int .i64 s.steps)).setCell ⟨w.heap.size+1,3,none⟩ (.int .i64 s.ticks)).setCell ⟨w.heap.size+1,4,none⟩ (.slice Ap np cp)).setCell ⟨w.heap.size+1,5,none⟩ (.slice Ah nh ch)).setCell ⟨w.heap.size+1,6,none⟩ (.slice Af nf cf)=W7 at R7 K7 ⊢
   obtain⟨g0_,g1_,g2_,g3_,g4_,g5_,g6_⟩:=(show W7.cell? ⟨w.heap.size+1,0,none⟩=some (.slice Ar rs.length cr)/\W7.cell? ⟨w.heap.size+1,1,none⟩=some (.slice Ad ds.length cd)/\W7.cell? ⟨w.heap.size+1,2,none⟩=some (.int .i64 s.steps)/\W7.cell? ⟨w.heap.size+1,3,none⟩=some (.int .i64 s.ticks)/\W7.cell? ⟨w.heap.size+1,4,none⟩=some (.slice Ap np cp)/\W7.cell? ⟨w.heap.size+1,5,none⟩=some (.slice Ah nh ch)/\W7.cell? ⟨w.heap.size+1,6,none⟩=some (.slice Af nf cf) from⟨cw R7.out 0,cw R7.out 1,cw R7.out 2,cw R7.out 3,cw R7.out 4,cw R7.out 5,cw R7.out 6⟩)
   refine bodyPost_ret (v:=.tuple #[.agg #[.slice Ar rs.length cr,.slice Ad ds.length cd,.int .i64 s.steps,.int .i64 s.ticks,.slice Ap np cp,.slice Ah nh ch,.slice Af nf cf],.int .i64 0]) (by simp[results,Tryz.results14,go_sem,g0_,g1_,g2_,g3_,g4_,g5_,g6_]) rfl ?_
   have hz:=RX.out.2.2.2.size
   rw[HRLE.out]
   refine⟨Ar,cr,Ad,cd,Ap,Ah,Af,np,cp,nh,ch,nf,cf,rfl,(OR.out.ks K6.out (fun x hx e=>?_)).ks K7.out (fun x hx e=>?_),(OD.out.ks K6.out (fun x hx e=>?_)).ks K7.out (fun x hx e=>?_),⟨ps,((S5.out.ks1 Q5.out K6.out).ks1 R6.out K7.out).mono hz⟩,RBB.out.2.2.trans ((K6.out.toBelow (fun y hy=>by have hy':y=q:=hy;have:=RBB.out.1 q (blk_lt Q5.out) (by rw[RC.out.q2];omega);omega) RBB.out.2.2.size).trans (K7.out.toBelow (fun y hy=>by have hy':y=w.heap.size+1:=hy;omega) (by have:=K6.out.size;have:=RBB.out.2.2.size;omega)))⟩
   ·exact own_apart_blk OR.out Q5.out (by decide) (by have e':x=q:=e;rw[<- e'];exact hx)
   ·exact own_apart_blk OR.out R5.out (by decide) (by have e':x=w.heap.size+1:=e;rw[<- e'];exact hx)
   ·exact own_apart_blk OD.out Q5.out (by decide) (by have e':x=q:=e;rw[<- e'];exact hx)
   ·exact own_apart_blk OD.out R5.out (by decide) (by have e':x=w.heap.size+1:=e;rw[<- e'];exact hx)
end Go.Proofs.YtiebppkhaiofeaaGreat.K
