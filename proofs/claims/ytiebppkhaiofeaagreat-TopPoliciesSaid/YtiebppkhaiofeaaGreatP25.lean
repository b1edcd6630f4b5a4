/- Part of the proof of TopPolicies: what functions of the program do. -/
import Derived.WideKeyEntry
import Derived.Test.YtiebppkhaiofeaaGreatP23
import Derived.Test.YtiebppkhaiofeaaGreatP24
import Derived.Test.YtiebppkhaiofeaaGreatP00
set_option maxHeartbeats 4000000
set_option maxRecDepth 100000
set_option linter.unusedVariables false
set_option linter.unusedSimpArgs false
open Go.IntKind renaming i64→I
open Go.Value renaming slice→J, int→V, bool→aA, pointer→bA
open Option renaming some→M, none→U
open Go.Obj renaming cells→O
open Go.ChangeMaps renaming setBlock→aB
open Go renaming Calls→bB, World→cA, bodyPost_ret→yA
open List renaming getD_eq_getElem?_getD→cB, getElem?_eq_getElem→dB, mem_singleton→tA, length_append→xA
open Go.Proofs.Tryz renaming prog→dA
open Go.Proofs.YtiebppkhaiofeaaGreatW.PrintWords renaming below_alloc→eA, blk_lt→eB, blk_frozen→jA, blk_below→kA, blk_alloc→lA, blk_set→mA, blk_new→nA
open Go.RowKit.Below renaming refl→fA
open Go.Proofs.YtiebppkhaiofeaaGreat.K renaming rec_old→jB
open Nat renaming le_trans→lB, le_refl→pA
open Go.Proofs.YtiebppkhaiofeaaGreat.K.KS renaming below→pB, refl→qB, set1→tB
open And renaming intro→qA
open Go.World renaming size_alloc→rA
namespace Go.Proofs.YtiebppkhaiofeaaGreat.K
open Go.RowKit Go.Proofs.YtiebppkhaiofeaaGreatW.PrintWords Go.Proofs.YtiebppkhaiofeaaGreat.S
attribute [local go_sem] World.cell?_alloc_some
open Go.ChangeMaps Go.MapKept
def runF (c:Cfg) (a:S.World×List Int×List S.Done) (e:Ent):S.World×List Int×List S.Done:=((a.1.step c e).1,a.2.1 ++ [(a.1.step c e).2.1],a.2.2 ++ (a.1.step c e).2.2)
def runL (c:Cfg) (l:List Ent):S.World×List Int×List S.Done:=l.foldl (runF c) (S.World.new c,[],[])
def ent0:Ent:=⟨0,0,0,0,0⟩
theorem runL_snoc (c:Cfg) (l:List Ent) {i:Nat} (h:i < l.length):runL c (l.take (i+1))=runF c (runL c (l.take i)) (l.getD i ent0):=by
 unfold runL
 rw[List.take_add_one,dB h,List.foldl_append,cB,dB h]
 rfl
theorem step_done {c:Cfg} {s:S.World} (hc:c.check=0) (h1:WOk c s) (hs:s.steps≤1000000) (e:Ent):(s.step c e).2.2.length≤128:=by
 have h0:=h1.t.st
 have hd:=acts_ok hc h1 vB e
 have hw:wrap64 (s.steps+1)=s.steps+1:=wrap_id vB vB
 unfold S.World.step
 simp only
 rw[hw]
 split
 ·simp
 ·split
  ·simp
  ·split
   ·simp
   ·have:=hd.don
    simpa using this
theorem runL_ok {c:Cfg} (hc:c.check=0) (l:List Ent) (hl:l.length≤900000):∀ i,i≤l.length->WOk c (runL c (l.take i)).1/\(runL c (l.take i)).1.steps=i/\(runL c (l.take i)).2.1.length=i/\(runL c (l.take i)).2.2.length≤128 * i
 | 0,_=>by
  have h:=wok_new hc
  simpa [runL,S.World.new] using h
 | i+1,h=>by
  obtain⟨h1,h2,h3,h4⟩:=runL_ok hc l hl i vB
  rw[runL_snoc c l vB]
  have hs:=wok_step hc h1 vB (l.getD i ent0)
  have ht:=(tinv_step hc h1.t vB (l.getD i ent0)).2.2
  have hdl:=step_done hc h1 vB (l.getD i ent0)
  refine⟨hs,?_,?_,?_⟩
  ·show((runL c (l.take i)).1.step c (l.getD i ent0)).1.steps=_
   rw[ht,h2];omega
  ·show((runL c (l.take i)).2.1 ++ _).length=_
   rw[xA,h3];rfl
  ·show((runL c (l.take i)).2.2 ++ _).length≤_
   rw[xA];omega
structure RunC (c:Cfg) (a:S.World×List Int×List S.Done) (b q:Nat) (C:Nat->Nat) (w:cA):Prop where
 wld:WldAt c a.1 b (fun x=>C x=1) w
 q2:C q=2
 rows:∃ Ar cr Ad cd,w.heap[q]?=M (O #[J Ar a.2.1.length cr,J Ad a.2.2.length cd,V I 0,V I 0,J U 0 0,J U 0 0,J U 0 0] 69 (0,0)) /\
  OwnE intE (J Ar a.2.1.length cr) a.2.1 w/\OwnE doneE (J Ad a.2.2.length cd) a.2.2 w/\(∀ x∈foot (J Ar a.2.1.length cr),C x=3)/\∀ x∈foot (J Ad a.2.2.length cd),C x=4
section
variable {c:Cfg} {a:S.World×List Int×List S.Done} {b q:Nat} {C C':Nat->Nat} {w w' w3:cA} {G:Set_}
theorem RunC.keep (h:RunC c a b q C w) (hk:KS G w w') (hs:∀ x,x < w.heap.size->1≤C x->C' x=C x/\¬ G x):RunC c a b q C' w':=by
 obtain⟨Ar,cr,Ad,cd,h1,h2,h3,h4,h5⟩:=h.rows
 have hq:=hs q (eB h1) (by rw[h.q2];omega)
 have f3:=fun x hx=>hs x (h2.lt x hx) (by rw[h4 x hx];omega)
 have f4:=fun x hx=>hs x (h3.lt x hx) (by rw[h5 x hx];omega)
 exact⟨h.wld.keep hk (fun x hx h=>by have h':C x=1:=h;have:=hs x hx vB;exact⟨this.1.trans h',this.2⟩),hq.1.trans h.q2,Ar,cr,Ad,cd,hk.at_ h1 hq.2,h2.ks hk (fun x hx=>(f3 x hx).2),h3.ks hk (fun x hx=>(f4 x hx).2),fun x hx=>(f3 x hx).1.trans (h4 x hx),fun x hx=>(f4 x hx).1.trans (h5 x hx)⟩
theorem RunC.below (h:RunC c a b q C w) (hb:Below w.heap.size w w'):RunC c a b q (rec_ C w 0) w':=h.keep (pB (fun _=>False) hb) (fun x hx _=>⟨jB hx,id⟩)
theorem RunC.step {s':S.World} (h:RunC c a b q C w) (hW:WldAt c s' b (gr (fun x=>C x=1) w) w') (hk:KS (fun x=>C x=1) w w'):RunC c (s',a.2) b q (rec_ C w 1) w':=by
 obtain⟨Ar,cr,Ad,cd,h1,h2,h3,h4,h5⟩:=h.rows
 have hq2:=h.q2
 refine⟨hW.keep (qB (fun _=>False) _) (fun x _ hx=>⟨?_,id⟩),(jB (eB h1)).trans hq2,Ar,cr,Ad,cd,hk.at_ h1 (by show ¬ C q=1;omega),h2.ks hk (fun x hx=>by have:=h4 x hx;show ¬ C x=1;omega),h3.ks hk (fun x hx=>by have:=h5 x hx;show ¬ C x=1;omega),fun x hx=>(jB (h2.lt x hx)).trans (h4 x hx),fun x hx=>(jB (h3.lt x hx)).trans (h5 x hx)⟩
 show rec_ C w 1 x=1
 rcases hx with hx | hx
 ·by_cases hl:x < w.heap.size
  ·rw[jB hl];exact hx
  ·exact rec_new vB
 ·exact rec_new hx
def RunB (w:cA) (C:Nat->Nat) (wr:cA):Prop:=(∀ x,x < wr.heap.size->1≤C x->w.heap.size+2≤x)/\wr.heap[w.heap.size+1]?=M (O #[J U 0 0,J U 0 0,V I 0,V I 0,J U 0 0,J U 0 0,J U 0 0] 69 (0,0))/\Below w.heap.size w wr
theorem RunB.turn {w0:cA} (h:RunB w0 C w) (hk:KS (fun x=>1≤C x) w w') (k:Nat):RunB w0 (rec_ C w k) w':=by
 obtain⟨r2,r3,r4⟩:=h
 have hz:=r4.size
 have hlt:=eB r3
 refine⟨fun x hx h=>?_,hk.at_ r3 (fun h=>by have:=r2 _ hlt h;omega),r4.trans ⟨hk.1,hk.2.1,hk.2.2.1,hk.2.2.2.1,fun i hi=>hk.2.2.2.2 i vB (fun h=>by have:=r2 i vB h;omega)⟩⟩
 by_cases hl:x < w.heap.size
 ·rw[jB hl] at h;exact r2 x hl h
 ·omega
theorem own_apart {α β:Type} {E:El α} {E':El β} {v v':Value} {xs:List α} {ys:List β} {W:cA} (hT:E.T≠E'.T) (h:OwnE E v xs W) (h':OwnE E' v' ys W):∀ x∈foot v,x∉foot v':=fun x hx hx'=>by
 rcases h.cases with ⟨rfl,-⟩ | ⟨g,cap,cur,rfl,hg,-⟩
 ·simp[foot_nil] at hx
 ·rcases h'.cases with ⟨rfl,-⟩ | ⟨g',cap',cur',rfl,hg',-⟩
  ·simp[foot_nil] at hx'
  ·simp only[foot_slice,tA] at hx hx'
   rw[<- hx,hx',hg'] at hg
   simp only[Option.some.injEq,Obj.cells.injEq] at hg
   exact hT hg.2.1.symm
theorem own_apart_blk {α:Type} {E:El α} {v:Value} {xs:List α} {W:cA} {g:Nat} {arr:Array Value} {T:TypeId} (h:OwnE E v xs W) (hb:W.heap[g]?=M (O arr T (0,0))) (hT:T≠E.T):g∉foot v:=fun hx=>by
 rcases h.cases with ⟨rfl,-⟩ | ⟨g',cap,cur,rfl,hg,-⟩
 ·simp[foot_nil] at hx
 ·simp only[foot_slice,tA] at hx
  rw[<- hx,hb] at hg
  simp only[Option.some.injEq,Obj.cells.injEq] at hg
  exact hT hg.2.1
theorem LinesV.ksO {n:S.Node} {v:Value} {B:Nat} {w w':cA} {g:Nat} {arr:Array Value} (h:LinesV n v B w) (hb:w.heap[g]?=M (O arr 69 (0,0))) (hk:KS (fun y=>y=g) w w'):LinesV n v B w':=by
 refine⟨h.1.imp fun ks k=>⟨k.1,k.2.1,k.2.2.ks hk fun x hx e=>?_⟩,h.2⟩
 exact own_apart_blk k.2.2 hb yB (by have e':x=g:=e;rw[<- e'];exact hx)
theorem ActsV.ksO {n:S.Node} {v:Value} {B:Nat} {w w':cA} {g:Nat} {arr:Array Value} (h:ActsV n v B w) (hb:w.heap[g]?=M (O arr 69 (0,0))) (hk:KS (fun y=>y=g) w w'):ActsV n v B w':=by
 refine⟨h.1.imp fun ks k=>⟨k.1,k.2.1,k.2.2.ks hk fun x hx e=>?_⟩,h.2⟩
 exact own_apart_blk k.2.2 hb yB (by have e':x=g:=e;rw[<- e'];exact hx)
theorem ShotV.ks1 {s:S.World} {Ap Ah Af:Option Addr} {np cp nh ch nf cf:Nat} {ps:List PlaceR} {B:Nat} {w w':cA} {g:Nat} {arr:Array Value} (h:ShotV s Ap Ah Af np cp nh ch nf cf ps B w) (hb:w.heap[g]?=M (O arr 69 (0,0))) (hk:KS (fun y=>y=g) w w'):ShotV s Ap Ah Af np cp nh ch nf cf ps B w':=by
 obtain⟨h1,h2,h3,h4,h5,h6,h7⟩:=h
 have ap:∀ {α:Type} {E:El α} {v:Value} {xs:List α},OwnE E v xs w->(69:TypeId)≠E.T->∀ x∈foot v,¬ x=g:=fun ho hT x hx e=>own_apart_blk ho hb hT (e ▸ hx)
 exact⟨h1.ks hk (ap h1 yB),h2,h3,⟨h4.len,fun i hi=>by
  have:=h4.ok i hi
  exact⟨this.1,this.2.1,this.2.2.1.ksO hb hk,this.2.2.2.ksO hb hk⟩⟩,h5.ks hk (ap h5 yB),h6.ks hk (ap h6 yB),h7⟩
theorem ShotV.mono {s:S.World} {Ap Ah Af:Option Addr} {np cp nh ch nf cf:Nat} {ps:List PlaceR} {B B':Nat} {w:cA} (h:ShotV s Ap Ah Af np cp nh ch nf cf ps B w) (hB:B'≤B):ShotV s Ap Ah Af np cp nh ch nf cf ps B' w:=by
 obtain⟨h1,h2,h3,h4,h5⟩:=h
 exact⟨h1,h2,h3,⟨h4.len,fun i hi=>by
  have:=h4.ok i hi
  exact⟨this.1,this.2.1,⟨this.2.2.1.1,fun x hx=>lB hB (this.2.2.1.2 x hx)⟩,⟨this.2.2.2.1,fun x hx=>lB hB (this.2.2.2.2 x hx)⟩⟩⟩,h5⟩
theorem RunC.res {A A':Option Addr} {cr cr':Nat} {Ad:Value} {k:Int} (h:RunC c a b q C w) (hq:w.heap[q]?=M (O #[J A a.2.1.length cr,Ad,V I 0,V I 0,J U 0 0,J U 0 0,J U 0 0] 69 (0,0))) (hO:OwnE intE (J A' (a.2.1.length+1) cr') (a.2.1 ++ [k]) w3) (hk:KS (fun x=>x∈foot (J A a.2.1.length cr)) w w3) (hf:∀ x∈foot (J A' (a.2.1.length+1) cr'),x∈foot (J A a.2.1.length cr)∨w.heap.size≤x) :
  RunC c (a.1,a.2.1 ++ [k],a.2.2) b q (rec_ C w 3) (w3.setCell ⟨q,0,U⟩ (J A' (a.2.1.length+1) cr'))/\KS (fun x=>2≤C x) w (w3.setCell ⟨q,0,U⟩ (J A' (a.2.1.length+1) cr')):=by
 obtain⟨Ar,cr1,Ad1,cd,h1,h2,h3,h4,h5⟩:=h.rows
 rw[h1] at hq
 simp only[Option.some.injEq,Obj.cells.injEq,and_true] at hq
 have hqa:=congrArg Array.toList hq
 simp only[List.cons.injEq,Value.slice.injEq,and_true,true_and] at hqa
 obtain⟨⟨rfl,rfl⟩,hAd⟩:=hqa
 have hq2:=h.q2
 have hbl:=eB h1
 have hk2:=KS.set (qB (fun x=>x=q) w3) (.inl rfl) 0 (J A' (a.2.1.length+1) cr') (g:=q)
 have hF:KS (fun x=>C x=3∨x=q) w (w3.setCell ⟨q,0,U⟩ (J A' (a.2.1.length+1) cr')):=(hk.mono (fun x _ hx=>.inl (h4 x hx))).trans hk2 (fun x _ e=>.inr e)
 have hqf:q∉foot (J Ar a.2.1.length cr1):=fun e=>by have:=h4 q e;omega
 refine⟨⟨h.wld.keep hF (fun x hx h=>⟨(jB hx).trans h,fun e=>by have h':C x=1:=h;rcases e with e | e;omega;rw[e] at h';omega⟩),(jB hbl).trans hq2,A',cr',Ad1,cd,?_,?_,h3.ks hF (fun x hx e=>by have:=h5 x hx;rcases e with e | e;omega;rw[e] at this;omega),fun x hx=>?_,fun x hx=>(jB (h3.lt x hx)).trans (h5 x hx)⟩,hF.mono (fun x _ e=>by rcases e with e | e;show 2≤C x;omega;show 2≤C x;rw[e];omega)⟩
 ·have:=mA (hk.at_ h1 hqf) 0 (J A' (a.2.1.length+1) cr')
  refine this.trans ?_
  simp
 ·have:OwnE intE (J A' (a.2.1.length+1) cr') (a.2.1 ++ [k]) (w3.setCell ⟨q,0,U⟩ (J A' (a.2.1.length+1) cr')):=hO.ks hk2 (fun x hx e=>by
   have e':x=q:=e
   rcases hf x hx with k | k
   ·exact hqf (e' ▸ k)
   ·omega)
  simpa using this
 ·have hx':x∈foot (J A' (a.2.1.length+1) cr'):=by simpa using hx
  rcases hf x hx' with k | k
  ·rw[jB (h2.lt x k)];exact h4 x k
  ·exact rec_new k
theorem RunC.don {A A':Option Addr} {cd cd':Nat} {Ar:Value} {ds:List S.Done} (h:RunC c a b q C w) (hq:w.heap[q]?=M (O #[Ar,J A a.2.2.length cd,V I 0,V I 0,J U 0 0,J U 0 0,J U 0 0] 69 (0,0))) (hO:OwnE doneE (J A' (a.2.2.length+ds.length) cd') (a.2.2 ++ ds) w3) (hk:KS (fun x=>x∈foot (J A a.2.2.length cd)) w w3) (hf:∀ x∈foot (J A' (a.2.2.length+ds.length) cd'),x∈foot (J A a.2.2.length cd)∨w.heap.size≤x) :
  RunC c (a.1,a.2.1,a.2.2 ++ ds) b q (rec_ C w 4) (w3.setCell ⟨q,1,U⟩ (J A' (a.2.2.length+ds.length) cd'))/\KS (fun x=>2≤C x) w (w3.setCell ⟨q,1,U⟩ (J A' (a.2.2.length+ds.length) cd')):=by
 obtain⟨Ar1,cr1,Ad1,cd1,h1,h2,h3,h4,h5⟩:=h.rows
 rw[h1] at hq
 simp only[Option.some.injEq,Obj.cells.injEq,and_true] at hq
 have hqa:=congrArg Array.toList hq
 simp only[List.cons.injEq,Value.slice.injEq,and_true,true_and] at hqa
 obtain⟨hAr,rfl,rfl⟩:=hqa
 have hq2:=h.q2
 have hbl:=eB h1
 have hk2:=KS.set (qB (fun x=>x=q) w3) (.inl rfl) 1 (J A' (a.2.2.length+ds.length) cd') (g:=q)
 have hF:KS (fun x=>C x=4∨x=q) w (w3.setCell ⟨q,1,U⟩ (J A' (a.2.2.length+ds.length) cd')):=(hk.mono (fun x _ hx=>.inl (h5 x hx))).trans hk2 (fun x _ e=>.inr e)
 have hqf:q∉foot (J Ad1 a.2.2.length cd1):=fun e=>by have:=h5 q e;omega
 refine⟨⟨h.wld.keep hF (fun x hx h=>⟨(jB hx).trans h,fun e=>by have h':C x=1:=h;rcases e with e | e;omega;rw[e] at h';omega⟩),(jB hbl).trans hq2,Ar1,cr1,A',cd',?_,h2.ks hF (fun x hx e=>by have:=h4 x hx;rcases e with e | e;omega;rw[e] at this;omega),?_,fun x hx=>(jB (h2.lt x hx)).trans (h4 x hx),fun x hx=>?_⟩,hF.mono (fun x _ e=>by rcases e with e | e;show 2≤C x;omega;show 2≤C x;rw[e];omega)⟩
 ·have:=mA (hk.at_ h1 hqf) 1 (J A' (a.2.2.length+ds.length) cd')
  refine this.trans ?_
  simp
 ·have:OwnE doneE (J A' (a.2.2.length+ds.length) cd') (a.2.2 ++ ds) (w3.setCell ⟨q,1,U⟩ (J A' (a.2.2.length+ds.length) cd')):=hO.ks hk2 (fun x hx e=>by
   have e':x=q:=e
   rcases hf x hx with k | k
   ·exact hqf (e' ▸ k)
   ·omega)
  simpa using this
 ·have hx':x∈foot (J A' (a.2.2.length+ds.length) cd'):=by simpa using hx
  rcases hf x hx' with k | k
  ·rw[jB (h3.lt x k)];exact h5 x k
  ·exact rec_new k
end
theorem run_any (c:Cfg) (hc:c.check=0) (l:List Ent) (hl:l.length≤900000) {A:Option Addr} {lc:Nat} {w:cA} (hR:OwnE entE (J A l.length lc) l w):bB dA 14 #[cfgV c,J A l.length lc] w fun e w'=>∃ Ar cr Ad cd Ap Ah Af np cp nh ch nf cf ps,e=.returned (.tuple #[.agg #[J Ar (runL c l).2.1.length cr,J Ad (runL c l).2.2.length cd,V I (runL c l).1.steps,V I (runL c l).1.ticks,J Ap np cp,J Ah nh ch,J Af nf cf],V I 0])/\OwnE intE (J Ar (runL c l).2.1.length cr) (runL c l).2.1 w'/\OwnE doneE (J Ad (runL c l).2.2.length cd) (runL c l).2.2 w'/\ShotV (runL c l).1 Ap Ah Af np cp nh ch nf cf ps w.heap.size w'/\Below w.heap.size w w':=by
 have NW:=AS (fun X=>worldNew_any c hc X)
 have OK:=AS (fun i hi=>runL_ok hc l hl i hi)
 have HC:=AS hc
 have RR:=AS hR
 have BN:=AS (lA (nA w (O #[V I c.nodes,V I c.blocks,V I c.tokens,V I c.sets,V I c.ways,V I c.cap,V I c.wait,V I c.tries,V I c.policy] 23)) (O #[J U 0 0,J U 0 0,V I 0,V I 0,J U 0 0,J U 0 0,J U 0 0] 69))
 have BR:=AS (show((w.alloc (O #[V I c.nodes,V I c.blocks,V I c.tokens,V I c.sets,V I c.ways,V I c.cap,V I c.wait,V I c.tries,V I c.policy] 23)).alloc (O #[J U 0 0,J U 0 0,V I 0,V I 0,J U 0 0,J U 0 0,J U 0 0] 69)).heap[w.heap.size+1]?=M (O #[J U 0 0,J U 0 0,V I 0,V I 0,J U 0 0,J U 0 0,J U 0 0] 69 (0,0)) from blk_newE _ _ (by rw[rA]))
 have B0:=AS (eA (eA (fA w.heap.size w) (O #[V I c.nodes,V I c.blocks,V I c.tokens,V I c.sets,V I c.ways,V I c.cap,V I c.wait,V I c.tries,V I c.policy] 23)) (O #[J U 0 0,J U 0 0,V I 0,V I 0,J U 0 0,J U 0 0,J U 0 0] 69))
 have SZ:=AS (show((w.alloc (O #[V I c.nodes,V I c.blocks,V I c.tokens,V I c.sets,V I c.ways,V I c.cap,V I c.wait,V I c.tries,V I c.policy] 23)).alloc (O #[J U 0 0,J U 0 0,V I 0,V I 0,J U 0 0,J U 0 0,J U 0 0] 69)).heap.size=w.heap.size+2 from by rw[rA,rA])
 clear hR hc
 simp only[cfgV] at NW ⊢
 go_enter Tryz.func14,Tryz.ntmps14
 go_upto_region 1 with fail
 generalize (w.alloc (O #[V I c.nodes,V I c.blocks,V I c.tokens,V I c.sets,V I c.ways,V I c.cap,V I c.wait,V I c.tries,V I c.policy] 23)).alloc (O #[J U 0 0,J U 0 0,V I 0,V I 0,J U 0 0,J U 0 0,J U 0 0] 69)=W at BN BR B0 SZ ⊢
 obtain⟨e0_,e1_,e2_,e3_,e4_,e5_,e6_,e7_,e8_⟩:=(show W.cell? ⟨w.heap.size,0,U⟩=M (V I c.nodes)/\W.cell? ⟨w.heap.size,1,U⟩=M (V I c.blocks)/\W.cell? ⟨w.heap.size,2,U⟩=M (V I c.tokens)/\W.cell? ⟨w.heap.size,3,U⟩=M (V I c.sets)/\W.cell? ⟨w.heap.size,4,U⟩=M (V I c.ways)/\W.cell? ⟨w.heap.size,5,U⟩=M (V I c.cap)/\W.cell? ⟨w.heap.size,6,U⟩=M (V I c.wait)/\W.cell? ⟨w.heap.size,7,U⟩=M (V I c.tries)/\W.cell? ⟨w.heap.size,8,U⟩=M (V I c.policy) from⟨cw BN.out 0,cw BN.out 1,cw BN.out 2,cw BN.out 3,cw BN.out 4,cw BN.out 5,cw BN.out 6,cw BN.out 7,cw BN.out 8⟩)
 go_wp2_with fail
 refine(NW.out W).mono ?_
 rintro e w1 ⟨b,rfl,hW1,hb1⟩
 have W1:=AS hW1
 have H1:=AS hb1
 clear hW1 hb1 NW e0_ e1_ e2_ e3_ e4_ e5_ e6_ e7_ e8_
 go_upto_region 5 with fail
 have R0:=AS (show(∃ C,RunC c (runL c (l.take 0)) b w1.heap.size C (w1.alloc (O #[J U 0 0,J U 0 0,V I 0,V I 0,J U 0 0,J U 0 0,J U 0 0] 69))/\RunB w C (w1.alloc (O #[J U 0 0,J U 0 0,V I 0,V I 0,J U 0 0,J U 0 0,J U 0 0] 69))) from by
  have hz1:=SZ.out
  have hz2:=H1.out.size
  have hb:=eA (fA w1.heap.size w1) (O #[J U 0 0,J U 0 0,V I 0,V I 0,J U 0 0,J U 0 0,J U 0 0] 69)
  refine⟨fun x=>if x=w1.heap.size then 2 else if W.heap.size≤x/\x < w1.heap.size then 1 else 0,⟨W1.out.keep (pB (fun _=>False) hb) (fun x hx h=>⟨?_,id⟩),if_pos rfl,U,0,U,0,nA w1 _,OwnE.nil _,OwnE.nil _,fun x hx=>by simp[foot_nil] at hx,fun x hx=>by simp[foot_nil] at hx⟩,⟨fun x hx h1=>?_,lA (kA BR.out H1.out) _,eA (B0.out.trans (H1.out.mono vB)) _⟩⟩
  ·have h':W.heap.size≤x:=h
   show(if x=w1.heap.size then 2 else if W.heap.size≤x/\x < w1.heap.size then 1 else 0)=1
   rw[if_neg vB,if_pos ⟨h',hx⟩]
  ·by_cases e0:x=w1.heap.size
   ·omega
   ·by_cases e1:W.heap.size≤x/\x < w1.heap.size
    ·omega
    ·simp only[if_neg e0,if_neg e1] at h1;omega)
 generalize w1.alloc (O #[J U 0 0,J U 0 0,V I 0,V I 0,J U 0 0,J U 0 0,J U 0 0] 69)=W2 at R0 ⊢
 generalize w1.heap.size=q at R0 ⊢
 go_wp2_with fail
 go_loopw [10,11,12,24] (fun v10 v11 v12 v24 wr=>∃ i:Nat,v24=V I i/\i≤l.length/\Aside0 (∃ C,RunC c (runL c (l.take i)) b q C wr/\RunB w C wr)) (fun _ _ _ v24 _=>l.length+1 - (intOf v24).toNat)
 case atStart=>exact⟨0,rfl,vB,R0⟩
 case round =>
  obtain⟨i,rfl,hi,R⟩:=hrel
  obtain⟨C,r1,rB⟩:=R.out
  have rB':=rB
  obtain⟨-,-,r4⟩:=rB'
  by_cases hcc:i < l.length
  ·have q0:(0:Int)≤(i:Int):=vB
   have q1:(i:Int) < (l.length:Int):=vB
   obtain⟨gl,cl,e,-,-,hgl,hcell⟩:=own_some RR.out hcc
   injection e with e1 e2 e3
   subst e1 e3
   have m0:wr.cell? ⟨gl,i * 5+0,U⟩=M (V I (l.getD i ent0).kind):=((bcell r4).1 gl _ hgl).trans ((hcell 0 yB).trans rfl)
   have m1:wr.cell? ⟨gl,i * 5+1,U⟩=M (V I (l.getD i ent0).a):=((bcell r4).1 gl _ hgl).trans ((hcell 1 yB).trans rfl)
   have m2:wr.cell? ⟨gl,i * 5+2,U⟩=M (V I (l.getD i ent0).b):=((bcell r4).1 gl _ hgl).trans ((hcell 2 yB).trans rfl)
   have m3:wr.cell? ⟨gl,i * 5+3,U⟩=M (V I (l.getD i ent0).c):=((bcell r4).1 gl _ hgl).trans ((hcell 3 yB).trans rfl)
   have m4:wr.cell? ⟨gl,i * 5+4,U⟩=M (V I (l.getD i ent0).d):=((bcell r4).1 gl _ hgl).trans ((hcell 4 yB).trans rfl)
   have m0':wr.cell? ⟨gl,i * 5,U⟩=M (V I (l.getD i ent0).kind):=m0
   have ok:=OK.out i hi
   have SN:=AS (runL_snoc c l hcc)
   have ENX:=AS (show ∃ en,l.getD i ent0=en from⟨_,rfl⟩)
   obtain⟨en,hen⟩:=ENX.out
   rw[hen] at m0 m0' m1 m2 m3 m4
   have SN:=AS (show runL c (l.take (i+1))=runF c (runL c (l.take i)) en from by rw[SN.out,hen])
   clear hen ENX hcell hgl m0
   obtain⟨k_,a_,b_,c_,d_⟩:=en
   have RB:=AS (r1.below (eA (fA wr.heap.size wr) (O #[V I k_,V I a_,V I b_,V I c_,V I d_] 33)))
   have ST:=AS (worldStep_any (e:=⟨k_,a_,b_,c_,d_⟩) RB.out.wld (WOk.bounds HC.out ok.1 (by have:=ok.2.1;omega) rfl rfl rfl))
   have RX:=AS (show RunB w C wr from rB)
   have OKX:=AS ok
   simp only[entV] at ST
   clear r1 r4 rB ok
   simp only at m0' m1 m2 m3 m4
   go_wp2_with fail
   refine ST.out.mono ?_
   rintro e w5 ⟨Ad5,n5,cp5,rfl,hW5,hO5,hk5⟩
   have W5:=AS (qA hW5 (qA hO5 hk5))
   clear hW5 hO5 hk5 ST m0' m1 m2 m3 m4
   have hrl:=OKX.out.2.2.1
   have hdl:=OKX.out.2.2.2
   have hs1:=W5.out.2.2.size
   have RX1:=AS (qA (RB.out.step W5.out.1 W5.out.2.2) ((RX.out.turn (pB _ (eA (fA wr.heap.size wr) (O #[V I k_,V I a_,V I b_,V I c_,V I d_] 33))) 0).turn (W5.out.2.2.mono (fun x _ h=>by have h':rec_ C wr 0 x=1:=h;show 1≤rec_ C wr 0 x;omega)) 1))
   have SN2:=SN.out
   generalize rec_ (rec_ C wr 0) (wr.alloc (O #[V I k_,V I a_,V I b_,V I c_,V I d_] 33)) 1=C5 at RX1
   unfold runF at SN2
   have hdk:=step_done HC.out OKX.out.1 (by have:=OKX.out.2.1;omega) ⟨k_,a_,b_,c_,d_⟩
   generalize (runL c (l.take i)).1.step c ⟨k_,a_,b_,c_,d_⟩=ST at RX1 W5 SN2 hdk ⊢
   obtain⟨s',rk,dk⟩:=ST
   generalize (runL c (l.take i)).2=rd at RX1 SN2 hrl hdl
   obtain⟨rs,ds⟩:=rd
   have SN3:=AS SN2
   clear SN2
   have hdk:dk.length≤128:=hdk
   obtain⟨Ar,cr,Ad,cd,h1,h2,h3,h4,h5⟩:=RX1.out.1.rows
   have k0:=cw h1 0 (v:=J Ar rs.length cr)
   have OA:=AS (show OwnE intE (J Ar rs.length cr) rs (w5.alloc (O #[V I rk] 3)) from h2.ks (pB (fun _=>False) (eA (fA _ _) _)) (fun _ _=>id))
   have RA:=AS (show RowE intE (w5.alloc (O #[V I rk] 3)) (M ⟨w5.heap.size,0,U⟩) [rk] from rowE_one (E:=intE) (x:=rk) (nA w5 (O #[V I rk] 3)))
   have RD:=AS (RX1.out.1.below (eA (fA w5.heap.size w5) (O #[V I rk] 3)))
   have Q1:=AS (lA h1 (O #[V I rk] 3))
   have F3:=AS h4
   have FIR:=AS (show ∀ v1 w6,OwnE intE v1 (rs ++ [rk]) w6->Keeps (foot (J Ar rs.length cr)) (w5.alloc (O #[V I rk] 3)) w6->(foot v1=foot (J Ar rs.length cr)∨foot v1=[(w5.alloc (O #[V I rk] 3)).heap.size])->∃ A3 k3,v1=J A3 (rs.length+1) k3/\w6.frozen? ⟨q,0,U⟩=false/\w6.cell? ⟨q,0,U⟩=M (J Ar rs.length cr)/\KS (fun x=>x∈foot (J Ar rs.length cr)∨x=q) (w5.alloc (O #[V I rk] 3)) (w6.setCell ⟨q,0,U⟩ (J A3 (rs.length+1) k3))/\RunC c (s',rs ++ [rk],ds) b q (rec_ (rec_ C5 w5 0) (w5.alloc (O #[V I rk] 3)) 3) (w6.setCell ⟨q,0,U⟩ (J A3 (rs.length+1) k3))/\KS (fun x=>2≤rec_ C5 w5 0 x) (w5.alloc (O #[V I rk] 3)) (w6.setCell ⟨q,0,U⟩ (J A3 (rs.length+1) k3)) from by
    intro v1 w6 hO hK hf
    have hk3:KS (fun x=>x∈foot (J Ar rs.length cr)) (w5.alloc (O #[V I rk] 3)) w6:=KS.keeps hK
    obtain⟨A3,k3,hv,-⟩:=hO.row
    have hv':v1=J A3 (rs.length+1) k3:=by rw[hv];simp
    subst hv'
    have Y1:=hk3.at_ Q1.out (fun e=>by have h6:=F3.out q e;have h7:=RX1.out.1.q2;omega)
    have h9:=RD.out.res (A:=Ar) (cr:=cr) (A':=A3) (cr':=k3) (k:=rk) Q1.out hO hk3 (fun x hx=>by
     rcases hf with e | e
     ·exact .inl (by rw[e] at hx;exact hx)
     ·exact .inr (by rw[e] at hx;simp only[tA] at hx;omega))
    exact⟨A3,k3,rfl,jA Y1 0,cw Y1 0,KS.set (F:=fun x=>x∈foot (J Ar rs.length cr)∨x=q) (hk3.mono (fun _ _ h=>.inl h)) (g:=q) (.inl (.inr rfl)) 0 _,h9.1,h9.2⟩)
   have HRL:=AS (qA hrl hdl)
   clear hrl hdl
   have O5:=AS W5.out.2.1
   have AP1:=AS (own_apart (E:=doneE) (E':=intE) yB W5.out.2.1 h2)
   have AP2:=AS (own_apart_blk W5.out.2.1 h1 yB)
   clear h1 h2 h3 h4 h5
   go_upto_region 10 with (first | (at_builtin;refine list_appE (E:=intE) (xs:=rs) (ys:=[rk]) xB _ _ rfl rfl rfl rfl (by exact OA.out) (by exact RA.out) (by have h6:rs.length=i:=HRL.out.1;show _ * 8≤_;simp;omega) ?_;intro v1 w6 hO hK hf;obtain⟨A3,k3,rfl,y2,y3,hFK,hFI⟩:=FIR.out v1 w6 hO hK hf;have FI:=AS hFI;have FIK:=AS hFK;clear hO hK hf hFI hFK) | fail)
   have hn5:n5=dk.length:=by obtain⟨A,c,e,-⟩:=O5.out.row;injection e
   have HDK:=AS hn5
   have HDL:=AS hdk
   have RX7:=AS (qA FI.out.1 ((RX1.out.2.turn (pB _ (eA (fA w5.heap.size w5) (O #[V I rk] 3))) 0).turn (FI.out.2.mono (fun x _ h=>by have h':2≤rec_ C5 w5 0 x:=h;show 1≤rec_ C5 w5 0 x;omega)) 3))
   have O7:=AS (show OwnE doneE (J Ad5 n5 cp5) dk (w6.setCell ⟨q,0,U⟩ (J A3 (rs.length+1) k3)) from(O5.out.ks (pB (fun _=>False) (eA (fA _ _) _)) (fun _ _=>id)).ks (G:=fun x=>x∈foot (J Ar rs.length cr)∨x=q) FIK.out (fun x hx e=>by
    rcases e with e | e
    ·exact AP1.out x hx e
    ·exact AP2.out (by rw[<- e];exact hx)))
   generalize rec_ (rec_ C5 w5 0) (w5.alloc (O #[V I rk] 3)) 3=C7 at RX7
   generalize w6.setCell ⟨q,0,U⟩ (J A3 (rs.length+1) k3)=w7 at RX7 O7 ⊢
   clear FI FIK y2 y3 k0 hn5 hdk
   obtain⟨Ar7,cr7,Ad7,cd7,g1,g2,g3,g4,g5⟩:=RX7.out.1.rows
   have k1_:=cw g1 1 (v:=J Ad7 ds.length cd7)
   have OA2:=AS (show OwnE doneE (J Ad7 ds.length cd7) ds w7 from g3)
   have RA2:=AS (show RowE doneE w7 Ad5 dk from by
    obtain⟨A,c,e,hr,-⟩:=O7.out.row
    injection e with e1 e2 e3
    subst e1
    exact hr)
   have FID:=AS (show ∀ v1 w8,OwnE doneE v1 (ds ++ dk) w8->Keeps (foot (J Ad7 ds.length cd7)) w7 w8->(foot v1=foot (J Ad7 ds.length cd7)∨foot v1=[w7.heap.size])->∃ A4 k4,v1=J A4 (ds.length+dk.length) k4/\w8.frozen? ⟨q,1,U⟩=false/\w8.cell? ⟨q,1,U⟩=M (J Ad7 ds.length cd7)/\RunC c (s',rs ++ [rk],ds ++ dk) b q (rec_ C7 w7 4) (w8.setCell ⟨q,1,U⟩ (J A4 (ds.length+dk.length) k4))/\KS (fun x=>2≤C7 x) w7 (w8.setCell ⟨q,1,U⟩ (J A4 (ds.length+dk.length) k4)) from by
    intro v1 w8 hO hK hf
    have hk3:KS (fun x=>x∈foot (J Ad7 ds.length cd7)) w7 w8:=KS.keeps hK
    obtain⟨A4,k4,hv,-⟩:=hO.row
    have hv':v1=J A4 (ds.length+dk.length) k4:=by rw[hv];simp
    subst hv'
    have Y1:=hk3.at_ g1 (fun e=>by have h6:=g5 q e;have h7:=RX7.out.1.q2;omega)
    have h9:=RX7.out.1.don (A:=Ad7) (cd:=cd7) (A':=A4) (cd':=k4) (ds:=dk) g1 hO hk3 (fun x hx=>by
     rcases hf with e | e
     ·exact .inl (by rw[e] at hx;exact hx)
     ·exact .inr (by rw[e] at hx;simp only[tA] at hx;omega))
    exact⟨A4,k4,rfl,jA Y1 1,cw Y1 1,h9.1,h9.2⟩)
   clear g1 g2 g3 g4 g5
   go_wp2_with (first | (at_builtin;refine list_appE (E:=doneE) (xs:=ds) (ys:=dk) xB _ _ rfl rfl rfl HDK.out (by exact OA2.out) (by exact RA2.out) (by have h6:ds.length≤128 * i:=HRL.out.2;have h7:=HDL.out;show _ * 56≤_;omega) ?_;intro v1 w8 hO hK hf;obtain⟨A4,k4,rfl,y2,y3,hFI⟩:=FID.out v1 w8 hO hK hf;have FI2:=AS hFI;clear hO hK hf hFI) | fail)
   go_roundw
   case rel =>
    refine⟨i+1,by go_num,vB,⟨⟨_,?_,RX7.out.2.turn (FI2.out.2.mono (fun x _ h=>by have h':2≤C7 x:=h;show 1≤C7 x;omega)) 4⟩⟩⟩
    rw[SN3.out]
    exact FI2.out.1
   case measure=>simp[intOf];omega
  ·have hin:i=l.length:=vB
   subst hin
   have e1:l.take l.length=l:=List.take_length
   rw[e1] at r1
   have ok:=OK.out l.length (pA _)
   rw[e1] at ok
   have SH:=AS (worldShot_any r1.wld ok.1 HC.out)
   have RX:=AS (qA r1 rB)
   generalize hrle:runL c l=rl at RX SH
   obtain⟨s,rs,ds⟩:=rl
   have HRLE:=AS hrle
   clear hrle
   clear r1 rB r4 ok e1
   go_wp2_with fail
   refine SH.out.mono ?_
   rintro e w5 ⟨Ap,Ah,Af,np,cp,nh,ch,nf,cf,ps,rfl,hS,hb5⟩
   have S5:=AS hS
   have H5:=AS hb5
   have RC:=AS (RX.out.1.below hb5)
   have RBB:=AS (RX.out.2.turn (pB _ hb5) 0)
   clear hS hb5
   simp only[shotV]
   obtain⟨Ar,cr,Ad,cd,h1,h2,h3,h4,h5⟩:=RC.out.rows
   have hrq:w.heap.size+1≠q:=fun e=>by
    have:=RBB.out.1 q (eB h1) (by rw[RC.out.q2];omega)
    omega
   have Q5:=AS h1
   have OR:=AS h2
   have OD:=AS h3
   have R5:=AS RBB.out.2.1
   have k0_:=cw h1 0 (v:=J Ar rs.length cr)
   have k1_:=cw h1 1 (v:=J Ad ds.length cd)
   have k2_:=cw h1 2 (v:=V I 0)
   have k3_:=cw h1 3 (v:=V I 0)
   have k4_:=cw h1 4 (v:=J U 0 0)
   have k5_:=cw h1 5 (v:=J U 0 0)
   have k6_:=cw h1 6 (v:=J U 0 0)
   have z0_:=jA h1 0
   have z1_:=jA h1 1
   have z2_:=jA h1 2
   have z3_:=jA h1 3
   have z4_:=jA h1 4
   have z5_:=jA h1 5
   have z6_:=jA h1 6
   clear h1 h2 h3 h4 h5
   go_upto_region 13 with fail
   have Q6:=AS (show((((((w5).setCell ⟨q,2,U⟩ (V I s.steps)).setCell ⟨q,3,U⟩ (V I s.ticks)).setCell ⟨q,4,U⟩ (J Ap np cp)).setCell ⟨q,5,U⟩ (J Ah nh ch)).setCell ⟨q,6,U⟩ (J Af nf cf)).heap[q]?=M (O #[J Ar rs.length cr,J Ad ds.length cd,V I s.steps,V I s.ticks,J Ap np cp,J Ah nh ch,J Af nf cf] 69 (0,0)) from(by
    have q2:=mA Q5.out 2 (V I s.steps)
    have q3:=mA q2 3 (V I s.ticks)
    have q4:=mA q3 4 (J Ap np cp)
    have q5:=mA q4 5 (J Ah nh ch)
    have q6:=mA q5 6 (J Af nf cf)
    exact blk_as q6 zB))
   have K6:=AS (show KS (fun y=>y=q) w5 ((((((w5).setCell ⟨q,2,U⟩ (V I s.steps)).setCell ⟨q,3,U⟩ (V I s.ticks)).setCell ⟨q,4,U⟩ (J Ap np cp)).setCell ⟨q,5,U⟩ (J Ah nh ch)).setCell ⟨q,6,U⟩ (J Af nf cf)) from(by repeat (with_reducible first | refine tB ?_ _ _ | exact qB _ _)))
   have R6:=AS (K6.out.at_ R5.out hrq)
   generalize (((((w5).setCell ⟨q,2,U⟩ (V I s.steps)).setCell ⟨q,3,U⟩ (V I s.ticks)).setCell ⟨q,4,U⟩ (J Ap np cp)).setCell ⟨q,5,U⟩ (J Ah nh ch)).setCell ⟨q,6,U⟩ (J Af nf cf)=W6 at Q6 K6 R6 ⊢
   clear k0_ z0_ k1_ z1_ k2_ z2_ k3_ z3_ k4_ z4_ k5_ z5_ k6_ z6_
   have k0_:=cw Q6.out 0 (v:=J Ar rs.length cr)
   have k1_:=cw Q6.out 1 (v:=J Ad ds.length cd)
   have k2_:=cw Q6.out 2 (v:=V I s.steps)
   have k3_:=cw Q6.out 3 (v:=V I s.ticks)
   have k4_:=cw Q6.out 4 (v:=J Ap np cp)
   have k5_:=cw Q6.out 5 (v:=J Ah nh ch)
   have k6_:=cw Q6.out 6 (v:=J Af nf cf)
   have m0_:=cw R6.out 0 (v:=J U 0 0)
   have m1_:=cw R6.out 1 (v:=J U 0 0)
   have m2_:=cw R6.out 2 (v:=V I 0)
   have m3_:=cw R6.out 3 (v:=V I 0)
   have m4_:=cw R6.out 4 (v:=J U 0 0)
   have m5_:=cw R6.out 5 (v:=J U 0 0)
   have m6_:=cw R6.out 6 (v:=J U 0 0)
   have z0_:=jA R6.out 0
   have z1_:=jA R6.out 1
   have z2_:=jA R6.out 2
   have z3_:=jA R6.out 3
   have z4_:=jA R6.out 4
   have z5_:=jA R6.out 5
   have z6_:=jA R6.out 6
   go_wp2
   have R7:=AS (show((((((((W6).setCell ⟨w.heap.size+1,0,U⟩ (J Ar rs.length cr)).setCell ⟨w.heap.size+1,1,U⟩ (J Ad ds.length cd)).setCell ⟨w.heap.size+1,2,U⟩ (V I s.steps)).setCell ⟨w.heap.size+1,3,U⟩ (V I s.ticks)).setCell ⟨w.heap.size+1,4,U⟩ (J Ap np cp)).setCell ⟨w.heap.size+1,5,U⟩ (J Ah nh ch)).setCell ⟨w.heap.size+1,6,U⟩ (J Af nf cf)).heap[w.heap.size+1]?=M (O #[J Ar rs.length cr,J Ad ds.length cd,V I s.steps,V I s.ticks,J Ap np cp,J Ah nh ch,J Af nf cf] 69 (0,0)) from(by
    have q1:=mA R6.out 0 (J Ar rs.length cr)
    have q2:=mA q1 1 (J Ad ds.length cd)
    have q3:=mA q2 2 (V I s.steps)
    have q4:=mA q3 3 (V I s.ticks)
    have q5:=mA q4 4 (J Ap np cp)
    have q6:=mA q5 5 (J Ah nh ch)
    have q7:=mA q6 6 (J Af nf cf)
    exact blk_as q7 zB))
   have K7:=AS (show KS (fun y=>y=w.heap.size+1) W6 ((((((((W6).setCell ⟨w.heap.size+1,0,U⟩ (J Ar rs.length cr)).setCell ⟨w.heap.size+1,1,U⟩ (J Ad ds.length cd)).setCell ⟨w.heap.size+1,2,U⟩ (V I s.steps)).setCell ⟨w.heap.size+1,3,U⟩ (V I s.ticks)).setCell ⟨w.heap.size+1,4,U⟩ (J Ap np cp)).setCell ⟨w.heap.size+1,5,U⟩ (J Ah nh ch)).setCell ⟨w.heap.size+1,6,U⟩ (J Af nf cf)) from(by repeat (with_reducible first | refine tB ?_ _ _ | exact qB _ _)))
   generalize (((((((W6).setCell ⟨w.heap.size+1,0,U⟩ (J Ar rs.length cr)).setCell ⟨w.heap.size+1,1,U⟩ (J Ad ds.length cd)).setCell ⟨w.heap.size+1,2,U⟩ (V I s.steps)).setCell ⟨w.heap.size+1,3,U⟩ (V I s.ticks)).setCell ⟨w.heap.size+1,4,U⟩ (J Ap np cp)).setCell ⟨w.heap.size+1,5,U⟩ (J Ah nh ch)).setCell ⟨w.heap.size+1,6,U⟩ (J Af nf cf)=W7 at R7 K7 ⊢
   obtain⟨g0_,g1_,g2_,g3_,g4_,g5_,g6_⟩:=(show W7.cell? ⟨w.heap.size+1,0,U⟩=M (J Ar rs.length cr)/\W7.cell? ⟨w.heap.size+1,1,U⟩=M (J Ad ds.length cd)/\W7.cell? ⟨w.heap.size+1,2,U⟩=M (V I s.steps)/\W7.cell? ⟨w.heap.size+1,3,U⟩=M (V I s.ticks)/\W7.cell? ⟨w.heap.size+1,4,U⟩=M (J Ap np cp)/\W7.cell? ⟨w.heap.size+1,5,U⟩=M (J Ah nh ch)/\W7.cell? ⟨w.heap.size+1,6,U⟩=M (J Af nf cf) from⟨cw R7.out 0,cw R7.out 1,cw R7.out 2,cw R7.out 3,cw R7.out 4,cw R7.out 5,cw R7.out 6⟩)
   refine yA (v:=.tuple #[.agg #[J Ar rs.length cr,J Ad ds.length cd,V I s.steps,V I s.ticks,J Ap np cp,J Ah nh ch,J Af nf cf],V I 0]) (by simp[results,Tryz.results14,go_sem,g0_,g1_,g2_,g3_,g4_,g5_,g6_]) rfl ?_
   have hz:=RX.out.2.2.2.size
   rw[HRLE.out]
   refine⟨Ar,cr,Ad,cd,Ap,Ah,Af,np,cp,nh,ch,nf,cf,rfl,(OR.out.ks K6.out (fun x hx e=>?_)).ks K7.out (fun x hx e=>?_),(OD.out.ks K6.out (fun x hx e=>?_)).ks K7.out (fun x hx e=>?_),⟨ps,((S5.out.ks1 Q5.out K6.out).ks1 R6.out K7.out).mono hz⟩,RBB.out.2.2.trans ((K6.out.toBelow (fun y hy=>by have hy':y=q:=hy;have:=RBB.out.1 q (eB Q5.out) (by rw[RC.out.q2];omega);omega) RBB.out.2.2.size).trans (K7.out.toBelow (fun y hy=>by have hy':y=w.heap.size+1:=hy;omega) (by have:=K6.out.size;have:=RBB.out.2.2.size;omega)))⟩
   ·exact own_apart_blk OR.out Q5.out yB (by have e':x=q:=e;rw[<- e'];exact hx)
   ·exact own_apart_blk OR.out R5.out yB (by have e':x=w.heap.size+1:=e;rw[<- e'];exact hx)
   ·exact own_apart_blk OD.out Q5.out yB (by have e':x=q:=e;rw[<- e'];exact hx)
   ·exact own_apart_blk OD.out R5.out yB (by have e':x=w.heap.size+1:=e;rw[<- e'];exact hx)
open Go.WideElems in
theorem IM.entry {P:Program} {w:cA} {t kt et:TypeId} {b:Nat} {es:Array MapEntry} {ck:Nat} {f:Int->Option Value} (h:IM es ck f) (hb:w.heap[b]?=M (.map es ck)) (ht:P.underlying t=M (.map kt et)) (hk:P.underlying kt=M (.int .i64)) {z:Value} (hz:∀ u:cA,(zeroValue et).run P u=.ok z u) (k:Int) :
  ∃ (st:Nat) (es1:Array MapEntry) (ck1:Nat),(Instr.mapEntry t (.map (M b)) (V I k)).run P w=.ok (.tuple #[(f k).getD z,goInt st]) (aB w b (.map es1 ck1)) /\
   ∀ (w2:cA) (val:Value),w2.heap[b]?=M (.map es1 ck1)->∃ es' ck',(Instr.entryStore t (.map (M b)) (goInt st) val).run P w2=.ok () (aB w2 b (.map es' ck'))/\IM es' ck' (fput f k val):=by
 have fin:∀ (val:Value) (es':Array MapEntry) (ck':Nat),(Instr.mapUpdate t (.map (M b)) (V I k) val).run P w=.ok () (aB w b (.map es' ck'))->IM es' ck' (fput f k val):=fun val es' ck' hr=>by
  obtain⟨es2,ck2,hr2,hi⟩:=h.put hb ht hk k val
  rw[hr2] at hr
  injection hr with _ hr
  have h1:=set_at hb (.map es2 ck2)
  rw[hr,set_at hb] at h1
  injection h1 with h1
  injection h1 with e1 e2
  rw[e1,e2];exact hi
 rcases h.find k with ⟨h0,h1,h2⟩ | ⟨j,e0,h0,h1,h2,h3⟩
 ·refine⟨ck,es.push ⟨V I k,z,ck⟩,ck+1,?_,fun w2 val hw2=>⟨es.push ⟨V I k,val,ck⟩,ck+1,?_,fin val _ _ ?_⟩⟩
  ·rw[h0]
   simp[Instr.mapEntry,run_underlying ht,MapKept.run_getObj_map hb,run_checkKey hk (isKey_int k),run_findKey hk h1,hz,MapKept.run_setObj_map _ hb,Result.andThen,aB]
  ·have hidx:(es.push ⟨V I k,z,ck⟩).findIdx? (fun e=>((e.born:Nat):Int) == ((ck:Nat):Int))=M es.size:=by
    rw[findIdx_arr]
    exact findIdx_born (l:=(es.push ⟨V I k,z,ck⟩).toList) (j:=es.size) (e0:=⟨V I k,z,ck⟩) (by
     simp only[Array.toList_push,List.map_append,List.map_cons,List.map_nil]
     refine List.nodup_append.2 ⟨h.1.2.1,zB,fun a ha c hc e1=>?_⟩
     simp only[tA] at hc
     obtain⟨x,hx,rfl⟩:=List.mem_map.1 ha
     have:=h.1.1 x hx
     omega) zB
   have hmod:(es.push ⟨V I k,z,ck⟩).modify es.size (fun e=>{ e with val:=val })=es.push ⟨V I k,val,ck⟩:=by
    apply Array.ext'
    rw[Array.toList_modify,Array.toList_push,Array.toList_push,<- Array.length_toList,modify_last]
   simp[Instr.entryStore,MapKept.run_getObj_map hw2,asInt,asIntOf,goInt,hidx,hmod,MapKept.run_setObj_map _ hw2,Result.andThen,aB]
  ·simp[Instr.mapUpdate,run_underlying ht,MapKept.run_getObj_map hb,run_checkKey hk (isKey_int k),run_findKey hk h1,MapKept.run_setObj_map _ hb,Result.andThen,aB]
 ·have hj:es[j]?=M e0:=h2
  have hl:es.toList[j]?=M e0:=by simpa using h2
  have hsame:es.modify j (fun e=>{ e with key:=V I k })=es:=by
   apply Array.ext'
   rw[Array.toList_modify,modify_eq_set _ _ _ _ hl]
   have:({ e0 with key:=V I k }:MapEntry)=e0:=by rw[<- h3]
   rw[this]
   exact set_self _ _ _ hl
  refine⟨e0.born,es,ck,?_,fun w2 val hw2=>⟨es.modify j (fun e'=>{ e' with key:=V I k,val:=val }),ck,?_,fin val _ _ ?_⟩⟩
  ·rw[h0]
   simp[Instr.mapEntry,run_underlying ht,MapKept.run_getObj_map hb,run_checkKey hk (isKey_int k),run_findKey hk h1,hj,h3,run_keyThatStays (isKey_int k),hsame,MapKept.run_setObj_map _ hb,Result.andThen,aB]
  ·have hidx:es.findIdx? (fun e=>((e.born:Nat):Int) == ((e0.born:Nat):Int))=M j:=by
    rw[findIdx_arr]
    exact findIdx_born h.1.2.1 hl
   have hmod:es.modify j (fun e=>{ e with val:=val })=es.modify j (fun e'=>{ e' with key:=V I k,val:=val }):=by
    apply Array.ext'
    rw[Array.toList_modify,Array.toList_modify,modify_eq_set _ _ _ _ hl,modify_eq_set _ _ _ _ hl,<- h3]
   simp[Instr.entryStore,MapKept.run_getObj_map hw2,asInt,asIntOf,goInt,hidx,hmod,MapKept.run_setObj_map _ hw2,Result.andThen,aB]
  ·simp[Instr.mapUpdate,run_underlying ht,MapKept.run_getObj_map hb,run_checkKey hk (isKey_int k),run_findKey hk h1,h2,h3,run_keyThatStays (isKey_int k),MapKept.run_setObj_map _ hb,Result.andThen,aB]
structure Regs where
 val:Int->Int
 cnt:Int->Int
 step:Int
def Regs.new:Regs:=⟨fun _=>0,fun _=>0,1⟩
def Regs.want (r:Regs) (d:S.Done):Int:=if d.op.write then d.op.value else r.val d.op.block
def Regs.doIt (r:Regs) (d:S.Done):Regs×Bool:=if d.number≠wrap64 (r.cnt d.node+1)∨d.step < r.step∨d.value≠r.want d then (r,false) else (⟨upd r.val d.op.block (r.want d),upd r.cnt d.node d.number,d.step⟩,true)
def RegAt (r:Regs) (b:Nat) (F:Set_) (w:cA):Prop:=∃ bv bc,w.heap[b]?=M (O #[.map (M bv),.map (M bc),V I r.step] 160 (0,0))/\MapI r.val bv w/\MapI r.cnt bc w/\b≠bv/\b≠bc/\bv≠bc/\F b/\F bv/\F bc
theorem under158:Tryz.prog.underlying 158=M (.map 3 2):=by kernel_rfl
theorem zero2 (w:cA):(zeroValue 2).run dA w=.ok (V I 0) w:=by kernel_rfl
theorem regNew_any (w:cA):bB dA 40 #[] w fun e w'=>∃ b,e=.returned (bA (M ⟨b,0,U⟩))/\RegAt Regs.new b (nw w) w'/\Below w.heap.size w w':=by
 have hmm:=@run_makeMap dA
 go_enter Tryz.func40,Tryz.ntmps40
 go_wp2
 go_ret
 refine⟨_,rfl,⟨w.heap.size,w.heap.size+1,blk_newE _ _ (by simp only[rA]),⟨#[],0,fun _=>U,lA (lA (nA w _) _) _,IM.empty,fun _=>rfl⟩,⟨#[],0,fun _=>U,lA (blk_newE _ _ (by simp only[rA])) _,IM.empty,fun _=>rfl⟩,vB,vB,vB,?_,?_,?_⟩,eA (eA (eA (fA _ _) _) _) _⟩
 ·show w.heap.size≤_;omega
 ·exact pA _
 ·show w.heap.size≤_;omega
def kindN (k:Int):Int:=if k < 0∨k > 7 then 0 else k
theorem kind_any (k f t b qq wh:Int) (wr:Bool) (c0:Int) (oo hh:Bool) (dd:Int) (w:cA):bB dA 71 #[.agg #[V I k,V I f,V I t,V I b,V I qq,V I wh,aA wr,V I c0,aA oo,aA hh,V I dd]] w (RV (V I (kindN k)) w):=by
 by_cases h0:k < 0
 ·rw[show kindN k=0 from if_pos (.inl h0)]
  have d0:decide (k < 0)=true:=decide_eq_true h0
  go_enter Tryz.func71,Tryz.ntmps71
  go_wp2
  go_ret
  exact RV.of rfl (by repeat (with_reducible first | exact fA _ _ | assumption | apply eA))
 ·have d0:decide (k < 0)=false:=decide_eq_false h0
  by_cases h7:7 < k
  ·rw[show kindN k=0 from if_pos (.inr h7)]
   have d1:decide (7 < k)=true:=decide_eq_true h7
   go_enter Tryz.func71,Tryz.ntmps71
   go_wp2
   go_ret
   exact RV.of rfl (by repeat (with_reducible first | exact fA _ _ | assumption | apply eA))
  ·rw[show kindN k=k from if_neg vB]
   have d1:decide (7 < k)=false:=decide_eq_false h7
   go_enter Tryz.func71,Tryz.ntmps71
   go_wp2
   go_ret
   exact RV.of rfl (by repeat (with_reducible first | exact fA _ _ | assumption | apply eA))
end Go.Proofs.YtiebppkhaiofeaaGreat.K
