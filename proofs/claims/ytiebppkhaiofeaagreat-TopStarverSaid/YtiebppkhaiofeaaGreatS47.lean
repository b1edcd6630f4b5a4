/- Part of the proof of TopStarver: what functions of the program do. -/
import Derived.Test.YtiebppkhaiofeaaGreatS46
set_option maxHeartbeats 4000000
set_option maxRecDepth 100000
set_option linter.unusedVariables false
set_option linter.unusedSimpArgs false
namespace Go.Proofs.YtiebppkhaiofeaaGreat.K
open Go.RowKit Go.Proofs.YtiebppkhaiofeaaGreatW.PrintWords Go.Proofs.YtiebppkhaiofeaaGreat.S
attribute [local go_sem] World.cell?_alloc_some
open Go.ChangeMaps Go.MapKept
def doneN (cs:List Int):List S.Done->List Int
 | []=>cs
 | d :: ds=>doneN (bump cs (if d.op.write then 6 else 5)) ds
def cntF (c:Cfg) (a:S.World×List Int) (e:Ent):S.World×List Int :=
 ((a.1.step c e).1,doneN (if (a.1.step c e).2.1=1 then entryN (bump a.2 (a.1.step c e).2.1.toNat) e a.1.way (a.1.step c e).1.way else bump a.2 (a.1.step c e).2.1.toNat) (a.1.step c e).2.2)
def cntL (c:Cfg) (l:List Ent):S.World×List Int:=l.foldl (cntF c) (S.World.new c,cnt0)
def EntOk (c:Cfg) (s:S.World) (e:Ent):Prop:=(0≤(s.step c e).2.1/\(s.step c e).2.1 < 3)/\s.way.length≤1000000/\(s.step c e).1.way.length≤1000000/\((s.step c e).2.1=1->(e.kind=2->0≤e.a/\e.a < s.way.length)/\s.way.length - (kindsN [] e s.way).2≤(s.step c e).1.way.length/\(kindsN [] e s.way).2≤s.way.length)
instance (c:Cfg) (s:S.World) (e:Ent):Decidable (EntOk c s e):=by unfold EntOk;infer_instance
theorem kindsN_snd (cs cs':List Int) (e:Ent) (was:List Let):(kindsN cs e was).2=(kindsN cs' e was).2:=by
 unfold kindsN
 repeat' split
 all_goals rfl
theorem cntL_fst (c:Cfg) (l:List Ent):∀ i,i≤l.length->(cntL c (l.take i)).1=(runL c (l.take i)).1
 | 0,_=>rfl
 | i+1,h=>by
  have ih:=cntL_fst c l i (by omega)
  rw[runL_snoc c l (by omega)]
  unfold cntL
  rw[List.take_add_one,List.getElem?_eq_getElem (show i < l.length by omega),List.foldl_append,List.getD_eq_getElem?_getD,List.getElem?_eq_getElem (show i < l.length by omega)]
  show(((cntL c (l.take i)).1).step c _).1=_
  rw[ih]
  rfl
theorem cntL_snoc (c:Cfg) (l:List Ent) {i:Nat} (h:i < l.length):cntL c (l.take (i+1))=cntF c (cntL c (l.take i)) (l.getD i ent0):=by
 unfold cntL
 rw[List.take_add_one,List.getElem?_eq_getElem h,List.foldl_append,List.getD_eq_getElem?_getD,List.getElem?_eq_getElem h]
 rfl
def cntV (cs:List Int):Value:=.agg (cs.map fun v=>Value.int .i64 v).toArray
theorem size79:(Tryz.prog.info? 79).map (·.size)=some 23:=by kernel_rfl
theorem load79 {w:Go.World} {g:Nat} {cs:List Int} (h:CntAt cs g w):(Instr.loadAt 79 (.pointer (some ⟨g,0,none⟩))).run Tryz.prog w=.ok (cntV cs) w :=
 run_loadAt_mid (P:=Tryz.prog) w g 0 79 (cs.map fun v=>Value.int .i64 v) _ (fun j v hv=>by
  rw[Nat.zero_add,blk_cell h.1 j]
  simpa using hv) Tryz.underlying79 rfl (by rw[List.length_map,h.2];exact size79)
theorem store79 {w:Go.World} {g:Nat} {cs cs':List Int} (h:CntAt cs g w) (h':cs'.length=23):∃ w',(Instr.storeAt 79 (.pointer (some ⟨g,0,none⟩)) (cntV cs')).run Tryz.prog w=.ok () w'/\CntAt cs' g w'/\KS (fun x=>x=g) w w':=by
 have hs:(cs'.map fun v=>Value.int .i64 v).toArray.size=23:=by simp[h']
 have hr:=run_storeAt_mid (P:=Tryz.prog) w g 0 79 (cs'.map fun v=>Value.int .i64 v).toArray (by
  rw[hs]
  intro j hj
  rw[Nat.zero_add,h.cell hj,h.frozen]
  exact⟨rfl,rfl⟩) (by rw[hs];exact size79) (by simp[Value.oneCell'])
 obtain⟨cur',k1,k2,k3⟩:=setCells_blk (cs'.map fun v=>Value.int .i64 v) 0 _ w h.1 (by simp[h',h.2])
 refine⟨_,hr,⟨k1.trans ?_,h'⟩,KS.setCells (F:=fun x=>x=g) (g:=g) (.inl rfl) _ _ _ (KS.refl _ _)⟩
 congr 2
 apply Array.ext
 ·rw[k2];simp[h',h.2]
 ·intro i h1 h2
  have h3:=k3 i
  have h4:i < 23:=by simpa [h'] using h2
  rw[if_pos (by simp[h'];omega),Array.getElem?_eq_getElem h1] at h3
  simp[h',h4] at h3 ⊢
  exact h3
theorem loadVar79 {w:Go.World} {g:Nat} {cs:List Int} (h:CntAt cs g w):(loadVar 79 ⟨g,0,none⟩).run Tryz.prog w=.ok (cntV cs) w :=
 run_loadVar_mid (P:=Tryz.prog) w g 0 79 (cs.map fun v=>Value.int .i64 v) _ (fun j v hv=>by
  rw[Nat.zero_add,blk_cell h.1 j]
  simpa using hv) Tryz.underlying79 rfl (by rw[List.length_map,h.2];exact size79)
theorem asAddr_ptr (w:Go.World) (p:Addr):(asAddr (.pointer (some p))).run Tryz.prog w=.ok p w:=rfl
theorem res17 {w:Go.World} {g:Nat} {cs:List Int} (h:CntAt cs g w) (tm:Array Value) (h4:tm.getD 4 undef=.pointer (some ⟨g,0,none⟩)) (h5:tm.getD 5 undef=.int .i64 0):(results Tryz.f17 tm).run Tryz.prog w=.ok (.tuple #[cntV cs,.int .i64 0]) w:=by
 simp only[results,Tryz.results17,Array.mapM_eq_mapM_toList,List.mapM_cons,List.mapM_nil,h4,h5,Sem.run_bind,Sem.run_pure,Result.andThen_ok,asAddr_ptr,loadVar79 h,Sem.run_map]
 rfl
section
variable {ops:Array Oper} {rest:List Oper} {op:Oper} {a:Act} {w:Go.World} {Q:Exit->Act->Go.World->Prop}
theorem wpList_load79 (hgd:op.guard=none) (x:Operand) (ho:op.op=.load 79 x) (g:Nat) (hx:a.eval x=.pointer (some ⟨g,0,none⟩)) (cs:List Int) (hC:CntAt cs g w) (h:wpList Tryz.prog ops Q rest (a.put op.dst (cntV cs)) w):wpList Tryz.prog ops Q (op :: rest) a w :=
 wpList_plain hgd fun _ hK=>by
  unfold Oper.wp execOp
  simp only[ho,hx,Sem.run_bind,load79 hC,Result.andThen_ok]
  exact hK _ _ h
theorem wpList_store79 (hgd:op.guard=none) (x y:Operand) (ho:op.op=.store 79 x y) (g:Nat) (hx:a.eval x=.pointer (some ⟨g,0,none⟩)) (cs:List Int) (hy:a.eval y=cntV cs) (w':Go.World) (hs:(Instr.storeAt 79 (.pointer (some ⟨g,0,none⟩)) (cntV cs)).run Tryz.prog w=.ok () w') (h:wpList Tryz.prog ops Q rest (a.put op.dst undef) w'):wpList Tryz.prog ops Q (op :: rest) a w :=
 wpList_plain hgd fun _ hK=>by
  unfold Oper.wp execOp
  simp only[ho,hx,hy,Sem.run_bind,hs,Result.andThen_ok]
  exact hK _ _ h
end
theorem field41 (u1 u2 u3 u4 u5:Value) (W:Go.World):(Instr.field 41 (.agg #[u1,u2,u3,u4,u5]) 4).run Tryz.prog W=.ok u5 W:=by kernel_rfl
def CntI (c:Cfg) (s:S.World) (cs:List Int) (b g r:Nat) (w0 w:Go.World):Prop:=∃ F:Set_,WldAt c s b F w/\(∀ x,F x->w0.heap.size≤x/\x < w.heap.size)/\CntAt cs g w/\CntAt cnt0 r w/\¬ F g/\¬ F r/\g≠r/\w0.heap.size≤g/\w0.heap.size≤r/\Below w0.heap.size w0 w
section
variable {c:Cfg} {s s':S.World} {cs cs':List Int} {b g r:Nat} {w0 w w':Go.World}
theorem CntI.below (h:CntI c s cs b g r w0 w) (hb:Below w.heap.size w w'):CntI c s cs b g r w0 w':=by
 obtain⟨F,h1,h2,h3,h4,h5,h6,h7,h8,h9,h10⟩:=h
 have hs:=hb.size
 exact⟨F,h1.keep (KS.below (fun _=>False) hb) (fun x _ h=>⟨h,id⟩),fun x h=>⟨(h2 x h).1,by have:=(h2 x h).2;omega⟩,h3.below hb,h4.below hb,h5,h6,h7,h8,h9,h10.trans (hb.mono h10.size)⟩
theorem CntI.turn (h:CntI c s cs b g r w0 w) (hk:KS (fun x=>x=g) w w') (hC:CntAt cs' g w'):CntI c s cs' b g r w0 w':=by
 obtain⟨F,h1,h2,h3,h4,h5,h6,h7,h8,h9,h10⟩:=h
 have hs:=hk.size
 exact⟨F,h1.keep hk (fun x _ h=>⟨h,fun e=>h5 (by have e':x=g:=e;rw[<- e'];exact h)⟩),fun x h=>⟨(h2 x h).1,by have:=(h2 x h).2;omega⟩,hC,h4.keep hk (fun e=>h7 (by have e':r=g:=e;exact e'.symm)),h5,h6,h7,h8,h9,h10.trans (hk.toBelow (fun y hy=>by have hy':y=g:=hy;omega) h10.size)⟩
theorem CntI.step (h:CntI c s cs b g r w0 w) {w2:Go.World} (hb:Below w.heap.size w w2):∃ F:Set_,WldAt c s b F w2/\(∀ x,F x->x < w.heap.size)/\∀ (s':S.World) (w':Go.World),WldAt c s' b (gr F w2) w'->KS F w2 w'->CntI c s' cs b g r w0 w':=by
 obtain⟨F,h1,h2,h3,h4,h5,h6,h7,h8,h9,h10⟩:=h
 have hs2:=hb.size
 refine⟨F,h1.keep (KS.below (fun _=>False) hb) (fun x _ h=>⟨h,id⟩),fun x h=>(h2 x h).2,fun s' w' hW hk=>?_⟩
 have hs:=hk.size
 have hg:=h3.lt
 have hr:=h4.lt
 have hz:=h10.size
 refine⟨fun x=>gr F w2 x/\x < w'.heap.size,hW.keep (KS.refl (fun _=>False) _) (fun x hx h=>⟨⟨h,hx⟩,id⟩),fun x h=>⟨?_,h.2⟩,(h3.below hb).keep hk h5,(h4.below hb).keep hk h6,fun h=>?_,fun h=>?_,h7,h8,h9,(h10.trans (hb.mono hz)).trans (hk.toBelow (fun y hy=>(h2 y hy).1) (by omega))⟩
 ·rcases h.1 with h' | h'
  ·exact(h2 x h').1
  ·omega
 ·rcases h.1 with h' | h'
  ·exact h5 h'
  ·omega
 ·rcases h.1 with h' | h'
  ·exact h6 h'
  ·omega
theorem CntI.shot (h:CntI c s cs b g r w0 w) (hs:WOk c s) (hc:c.check=0):Calls Tryz.prog 10 #[.pointer (some ⟨b,0,none⟩)] w fun e w'=>∃ Ap Ah Af np cp nh ch nf cf ps,e=.returned (shotV s Ap Ah Af np cp nh ch nf cf)/\ShotV s Ap Ah Af np cp nh ch nf cf ps w.heap.size w'/\Below w.heap.size w w':=by
 obtain⟨F,h1,-⟩:=h
 exact worldShot_any h1 hs hc
theorem CntI.cnt (h:CntI c s cs b g r w0 w):CntAt cs g w:=by
 obtain⟨F,-,-,h3,-⟩:=h
 exact h3
end
theorem countRun_any (c:Cfg) (hc:c.check=0) (l:List Ent) (hl:l.length≤900000) (hok:∀ i,i < l.length->EntOk c (runL c (l.take i)).1 (l.getD i ent0)) {A:Option Addr} {lc:Nat} {w:Go.World} (hR:OwnE entE (.slice A l.length lc) l w):Calls Tryz.prog 17 #[cfgV c,.slice A l.length lc] w fun e w'=>e=.returned (.tuple #[cntV (cntL c l).2,.int .i64 0])/\Below w.heap.size w w':=by
 have NW:=AS (fun X=>worldNew_any c hc X)
 have OK:=AS (fun i hi=>runL_ok hc l hl i hi)
 have EOK:=AS hok
 have HC:=AS hc
 have RR:=AS hR
 have C1:=AS (show CntAt cnt0 (w.heap.size+1) (((w.alloc (.cells #[.int .i64 c.nodes,.int .i64 c.blocks,.int .i64 c.tokens,.int .i64 c.sets,.int .i64 c.ways,.int .i64 c.cap,.int .i64 c.wait,.int .i64 c.tries,.int .i64 c.policy] 23)).alloc (.cells #[.int .i64 0,.int .i64 0,.int .i64 0,.int .i64 0,.int .i64 0,.int .i64 0,.int .i64 0,.int .i64 0,.int .i64 0,.int .i64 0,.int .i64 0,.int .i64 0,.int .i64 0,.int .i64 0,.int .i64 0,.int .i64 0,.int .i64 0,.int .i64 0,.int .i64 0,.int .i64 0,.int .i64 0,.int .i64 0,.int .i64 0] 79)).alloc (.cells #[.int .i64 0,.int .i64 0,.int .i64 0,.int .i64 0,.int .i64 0,.int .i64 0,.int .i64 0,.int .i64 0,.int .i64 0,.int .i64 0,.int .i64 0,.int .i64 0,.int .i64 0,.int .i64 0,.int .i64 0,.int .i64 0,.int .i64 0,.int .i64 0,.int .i64 0,.int .i64 0,.int .i64 0,.int .i64 0,.int .i64 0] 79)) from by
  have h:=CntAt.new (w.alloc (.cells #[.int .i64 c.nodes,.int .i64 c.blocks,.int .i64 c.tokens,.int .i64 c.sets,.int .i64 c.ways,.int .i64 c.cap,.int .i64 c.wait,.int .i64 c.tries,.int .i64 c.policy] 23))
  rw[World.size_alloc] at h
  exact h.below (below_alloc (Below.refl _ _) _))
 have C2:=AS (show CntAt cnt0 (w.heap.size+2) (((w.alloc (.cells #[.int .i64 c.nodes,.int .i64 c.blocks,.int .i64 c.tokens,.int .i64 c.sets,.int .i64 c.ways,.int .i64 c.cap,.int .i64 c.wait,.int .i64 c.tries,.int .i64 c.policy] 23)).alloc (.cells #[.int .i64 0,.int .i64 0,.int .i64 0,.int .i64 0,.int .i64 0,.int .i64 0,.int .i64 0,.int .i64 0,.int .i64 0,.int .i64 0,.int .i64 0,.int .i64 0,.int .i64 0,.int .i64 0,.int .i64 0,.int .i64 0,.int .i64 0,.int .i64 0,.int .i64 0,.int .i64 0,.int .i64 0,.int .i64 0,.int .i64 0] 79)).alloc (.cells #[.int .i64 0,.int .i64 0,.int .i64 0,.int .i64 0,.int .i64 0,.int .i64 0,.int .i64 0,.int .i64 0,.int .i64 0,.int .i64 0,.int .i64 0,.int .i64 0,.int .i64 0,.int .i64 0,.int .i64 0,.int .i64 0,.int .i64 0,.int .i64 0,.int .i64 0,.int .i64 0,.int .i64 0,.int .i64 0,.int .i64 0] 79)) from by
  have h:=CntAt.new ((w.alloc (.cells #[.int .i64 c.nodes,.int .i64 c.blocks,.int .i64 c.tokens,.int .i64 c.sets,.int .i64 c.ways,.int .i64 c.cap,.int .i64 c.wait,.int .i64 c.tries,.int .i64 c.policy] 23)).alloc (.cells #[.int .i64 0,.int .i64 0,.int .i64 0,.int .i64 0,.int .i64 0,.int .i64 0,.int .i64 0,.int .i64 0,.int .i64 0,.int .i64 0,.int .i64 0,.int .i64 0,.int .i64 0,.int .i64 0,.int .i64 0,.int .i64 0,.int .i64 0,.int .i64 0,.int .i64 0,.int .i64 0,.int .i64 0,.int .i64 0,.int .i64 0] 79))
  rw[World.size_alloc,World.size_alloc] at h
  exact h)
 have BN:=AS (blk_alloc (blk_alloc (blk_new w (.cells #[.int .i64 c.nodes,.int .i64 c.blocks,.int .i64 c.tokens,.int .i64 c.sets,.int .i64 c.ways,.int .i64 c.cap,.int .i64 c.wait,.int .i64 c.tries,.int .i64 c.policy] 23)) (.cells #[.int .i64 0,.int .i64 0,.int .i64 0,.int .i64 0,.int .i64 0,.int .i64 0,.int .i64 0,.int .i64 0,.int .i64 0,.int .i64 0,.int .i64 0,.int .i64 0,.int .i64 0,.int .i64 0,.int .i64 0,.int .i64 0,.int .i64 0,.int .i64 0,.int .i64 0,.int .i64 0,.int .i64 0,.int .i64 0,.int .i64 0] 79)) (.cells #[.int .i64 0,.int .i64 0,.int .i64 0,.int .i64 0,.int .i64 0,.int .i64 0,.int .i64 0,.int .i64 0,.int .i64 0,.int .i64 0,.int .i64 0,.int .i64 0,.int .i64 0,.int .i64 0,.int .i64 0,.int .i64 0,.int .i64 0,.int .i64 0,.int .i64 0,.int .i64 0,.int .i64 0,.int .i64 0,.int .i64 0] 79))
 have B0:=AS (below_alloc (below_alloc (below_alloc (Below.refl w.heap.size w) (.cells #[.int .i64 c.nodes,.int .i64 c.blocks,.int .i64 c.tokens,.int .i64 c.sets,.int .i64 c.ways,.int .i64 c.cap,.int .i64 c.wait,.int .i64 c.tries,.int .i64 c.policy] 23)) (.cells #[.int .i64 0,.int .i64 0,.int .i64 0,.int .i64 0,.int .i64 0,.int .i64 0,.int .i64 0,.int .i64 0,.int .i64 0,.int .i64 0,.int .i64 0,.int .i64 0,.int .i64 0,.int .i64 0,.int .i64 0,.int .i64 0,.int .i64 0,.int .i64 0,.int .i64 0,.int .i64 0,.int .i64 0,.int .i64 0,.int .i64 0] 79)) (.cells #[.int .i64 0,.int .i64 0,.int .i64 0,.int .i64 0,.int .i64 0,.int .i64 0,.int .i64 0,.int .i64 0,.int .i64 0,.int .i64 0,.int .i64 0,.int .i64 0,.int .i64 0,.int .i64 0,.int .i64 0,.int .i64 0,.int .i64 0,.int .i64 0,.int .i64 0,.int .i64 0,.int .i64 0,.int .i64 0,.int .i64 0] 79))
 have SZ:=AS (show(((w.alloc (.cells #[.int .i64 c.nodes,.int .i64 c.blocks,.int .i64 c.tokens,.int .i64 c.sets,.int .i64 c.ways,.int .i64 c.cap,.int .i64 c.wait,.int .i64 c.tries,.int .i64 c.policy] 23)).alloc (.cells #[.int .i64 0,.int .i64 0,.int .i64 0,.int .i64 0,.int .i64 0,.int .i64 0,.int .i64 0,.int .i64 0,.int .i64 0,.int .i64 0,.int .i64 0,.int .i64 0,.int .i64 0,.int .i64 0,.int .i64 0,.int .i64 0,.int .i64 0,.int .i64 0,.int .i64 0,.int .i64 0,.int .i64 0,.int .i64 0,.int .i64 0] 79)).alloc (.cells #[.int .i64 0,.int .i64 0,.int .i64 0,.int .i64 0,.int .i64 0,.int .i64 0,.int .i64 0,.int .i64 0,.int .i64 0,.int .i64 0,.int .i64 0,.int .i64 0,.int .i64 0,.int .i64 0,.int .i64 0,.int .i64 0,.int .i64 0,.int .i64 0,.int .i64 0,.int .i64 0,.int .i64 0,.int .i64 0,.int .i64 0] 79)).heap.size=w.heap.size+3 from by rw[World.size_alloc,World.size_alloc,World.size_alloc])
 clear hR hc hok
 have hf41:=field41
 simp only[cfgV] at NW ⊢
 go_enter Tryz.func17,Tryz.ntmps17
 go_upto_region 2 with fail
 generalize ((w.alloc (.cells #[.int .i64 c.nodes,.int .i64 c.blocks,.int .i64 c.tokens,.int .i64 c.sets,.int .i64 c.ways,.int .i64 c.cap,.int .i64 c.wait,.int .i64 c.tries,.int .i64 c.policy] 23)).alloc (.cells #[.int .i64 0,.int .i64 0,.int .i64 0,.int .i64 0,.int .i64 0,.int .i64 0,.int .i64 0,.int .i64 0,.int .i64 0,.int .i64 0,.int .i64 0,.int .i64 0,.int .i64 0,.int .i64 0,.int .i64 0,.int .i64 0,.int .i64 0,.int .i64 0,.int .i64 0,.int .i64 0,.int .i64 0,.int .i64 0,.int .i64 0] 79)).alloc (.cells #[.int .i64 0,.int .i64 0,.int .i64 0,.int .i64 0,.int .i64 0,.int .i64 0,.int .i64 0,.int .i64 0,.int .i64 0,.int .i64 0,.int .i64 0,.int .i64 0,.int .i64 0,.int .i64 0,.int .i64 0,.int .i64 0,.int .i64 0,.int .i64 0,.int .i64 0,.int .i64 0,.int .i64 0,.int .i64 0,.int .i64 0] 79)=W at C1 C2 BN B0 SZ ⊢
 have e0_:=cw BN.out 0 (v:=.int .i64 c.nodes)
 have e1_:=cw BN.out 1 (v:=.int .i64 c.blocks)
 have e2_:=cw BN.out 2 (v:=.int .i64 c.tokens)
 have e3_:=cw BN.out 3 (v:=.int .i64 c.sets)
 have e4_:=cw BN.out 4 (v:=.int .i64 c.ways)
 have e5_:=cw BN.out 5 (v:=.int .i64 c.cap)
 have e6_:=cw BN.out 6 (v:=.int .i64 c.wait)
 have e7_:=cw BN.out 7 (v:=.int .i64 c.tries)
 have e8_:=cw BN.out 8 (v:=.int .i64 c.policy)
 go_wp2_with fail
 refine(NW.out W).mono ?_
 rintro e w1 ⟨b,rfl,hW1,hb1⟩
 have R0:=AS (show CntI c (cntL c (l.take 0)).1 (cntL c (l.take 0)).2 b (w.heap.size+2) (w.heap.size+1) w w1 from by
  have hz1:=SZ.out
  have hz2:=hb1.size
  refine⟨fun x=>W.heap.size≤x/\x < w1.heap.size,hW1.keep (KS.refl (fun _=>False) _) (fun x hx h=>⟨⟨h,hx⟩,id⟩),fun x h=>⟨by omega,h.2⟩,C2.out.below hb1,C1.out.below hb1,fun h=>?_,fun h=>?_,by omega,by omega,by omega,B0.out.trans (hb1.mono (by omega))⟩
  ·have:=h.1;omega
  ·have:=h.1;omega)
 clear hW1 hb1 NW e0_ e1_ e2_ e3_ e4_ e5_ e6_ e7_ e8_
 generalize w.heap.size+2=g at R0 ⊢
 generalize w.heap.size+1=r at R0 ⊢
 clear C1 C2 BN B0 SZ
 go_wp2_with fail
 go_loopw [10,11,12,13,15,27] (fun v10 v11 v12 v13 v15 v27 wr=>∃ i:Nat,v27=.int .i64 i/\i≤l.length/\Aside0 (CntI c (cntL c (l.take i)).1 (cntL c (l.take i)).2 b g r w wr)) (fun _ _ _ _ _ v27 _=>l.length+1 - (intOf v27).toNat)
 case atStart=>exact⟨0,rfl,by omega,R0⟩
 case round =>
  obtain⟨i,rfl,hi,RL⟩:=hrel
  by_cases hcc:i < l.length
  ·have r4:=RL.out
   obtain⟨-,-,-,-,-,-,-,-,-,-,r4⟩:=r4
   have q0:(0:Int)≤(i:Int):=by omega
   have q1:(i:Int) < (l.length:Int):=by omega
   obtain⟨gl,cl,e,-,-,hgl,hcell⟩:=own_some RR.out hcc
   injection e with e1 e2 e3
   subst e1 e3
   have m0:wr.cell? ⟨gl,i * 5+0,none⟩=some (.int .i64 (l.getD i ent0).kind):=((bcell r4).1 gl _ hgl).trans ((hcell 0 (by decide)).trans rfl)
   have m1:wr.cell? ⟨gl,i * 5+1,none⟩=some (.int .i64 (l.getD i ent0).a):=((bcell r4).1 gl _ hgl).trans ((hcell 1 (by decide)).trans rfl)
   have m2:wr.cell? ⟨gl,i * 5+2,none⟩=some (.int .i64 (l.getD i ent0).b):=((bcell r4).1 gl _ hgl).trans ((hcell 2 (by decide)).trans rfl)
   have m3:wr.cell? ⟨gl,i * 5+3,none⟩=some (.int .i64 (l.getD i ent0).c):=((bcell r4).1 gl _ hgl).trans ((hcell 3 (by decide)).trans rfl)
   have m4:wr.cell? ⟨gl,i * 5+4,none⟩=some (.int .i64 (l.getD i ent0).d):=((bcell r4).1 gl _ hgl).trans ((hcell 4 (by decide)).trans rfl)
   have m0':wr.cell? ⟨gl,i * 5,none⟩=some (.int .i64 (l.getD i ent0).kind):=m0
   have hok:=OK.out i hi
   have heo:=EOK.out i hcc
   have SN:=cntL_snoc c l hcc
   have hfs:=cntL_fst c l i hi
   rw[<- hfs] at hok heo
   obtain⟨en,hen⟩:∃ en,l.getD i ent0=en:=⟨_,rfl⟩
   rw[hen] at m0 m0' m1 m2 m3 m4 SN heo
   clear hen hcell hgl m0 hfs
   obtain⟨k_,a_,b_,c_,d_⟩:=en
   simp only at m0' m1 m2 m3 m4
   have RLL:=RL
   generalize cntL c (l.take i)=a0 at RLL SN hok heo
   obtain⟨s,cs⟩:=a0
   have SN1:=AS SN
   have HOK:=AS (And.intro hok.1 hok.2.1)
   have HEO:=AS heo
   have XB:=AS (blk_new wr (.cells #[.int .i64 k_,.int .i64 a_,.int .i64 b_,.int .i64 c_,.int .i64 d_] 33))
   have BB:=AS (below_alloc (Below.refl wr.heap.size wr) (.cells #[.int .i64 k_,.int .i64 a_,.int .i64 b_,.int .i64 c_,.int .i64 d_] 33))
   have RW:=AS RLL.out
   have SH:=AS (show Calls Tryz.prog 10 _ (wr.alloc (.cells #[.int .i64 k_,.int .i64 a_,.int .i64 b_,.int .i64 c_,.int .i64 d_] 33)) _ from by obtain⟨F,h1,-⟩:=RW.out.below BB.out;exact worldShot_new h1 HOK.out.1 HC.out)
   have hbx:(wr.alloc (.cells #[.int .i64 k_,.int .i64 a_,.int .i64 b_,.int .i64 c_,.int .i64 d_] 33)).heap.size=wr.heap.size+1:=by rw[World.size_alloc]
   have HBX:=AS hbx
   clear SN hok heo RLL RL r4 hbx
   go_upto_region 8 with fail
   generalize wr.alloc (.cells #[.int .i64 k_,.int .i64 a_,.int .i64 b_,.int .i64 c_,.int .i64 d_] 33)=W1 at XB BB SH HBX ⊢
   clear m0' m1 m2 m3 m4
   go_wp2_with fail
   refine SH.out.mono ?_
   rintro e w2 ⟨Ap,Ah,Af,np,cp,nh,ch,nf,cf,ps,rfl,hS,hb2,hfr⟩
   have X2:=AS (blk_below XB.out hb2)
   have B2:=AS (BB.out.trans (hb2.mono (by have:=HBX.out;omega)))
   have O2:=AS (show OwnE letE (.slice Af nf cf) s.way w2/\∀ x∈foot (.slice Af nf cf),W1.heap.size < x from⟨hS.2.2.2.2.2.1,hfr⟩)
   have hnf:nf=s.way.length:=hS.2.2.2.2.2.2.2
   subst hnf
   obtain⟨F,hWF,hF,hnext⟩:=RW.out.step B2.out
   have ST:=AS (worldStep_any (e:=⟨k_,a_,b_,c_,d_⟩) hWF (WOk.bounds HC.out HOK.out.1 (by have:=HOK.out.2;omega) rfl rfl rfl))
   have HF:=AS hF
   have NX:=AS hnext
   have HWS:=AS (wok_step HC.out HOK.out.1 (by have:=HOK.out.2;omega) ⟨k_,a_,b_,c_,d_⟩)
   clear hS hb2 hfr SH hWF hF hnext
   simp only[shotV]
   simp only[entV] at ST
   go_upto_region 9 with fail
   have x0:=cw X2.out 0 (v:=.int .i64 k_)
   have x1:=cw X2.out 1 (v:=.int .i64 a_)
   have x2:=cw X2.out 2 (v:=.int .i64 b_)
   have x3:=cw X2.out 3 (v:=.int .i64 c_)
   have x4:=cw X2.out 4 (v:=.int .i64 d_)
   go_wp2_with fail
   refine ST.out.mono ?_
   rintro e w3 ⟨Ad,nd,cd,rfl,hW3,hO3,hk3⟩
   have N3:=AS (NX.out _ w3 hW3 hk3)
   have X3:=AS (hk3.at_ X2.out (fun h=>by have:=HF.out _ h;omega))
   have L3:=AS (O2.out.1.ks hk3 (fun x hx h=>by have:=HF.out x h;have:=O2.out.2 x hx;have:=HBX.out;omega))
   have D3:=AS hO3
   clear hW3 hO3 hk3 ST NX HF x0 x1 x2 x3 x4 X2 B2 O2 RW BB XB
   have SN2:=SN1.out
   have heo:=HEO.out
   unfold cntF at SN2
   unfold EntOk at heo
   generalize s.step c ⟨k_,a_,b_,c_,d_⟩=ST at N3 D3 HWS SN2 heo ⊢
   obtain⟨s',rk,dk⟩:=ST
   simp only at SN2 heo
   obtain⟨⟨hr0,hr1⟩,hl1,hl2,heo⟩:=heo
   obtain⟨kk,rfl⟩:∃ kk:Nat,rk=kk:=⟨rk.toNat,by omega⟩
   simp only[Int.toNat_natCast] at SN2
   have SN3:=AS SN2
   have HEO2:=AS (And.intro hl1 (And.intro hl2 heo))
   clear SN2 heo SN1 HEO
   have hnd:nd=dk.length:=by obtain⟨A,c,e,-⟩:=D3.out.row;injection e
   subst hnd
   obtain⟨cg,zg⟩:w3.cell? ⟨g,kk,none⟩=some (.int .i64 (cs.getD kk 0))/\w3.frozen? ⟨g,kk,none⟩=false:=by
    obtain⟨F,-,-,h3,-⟩:=N3.out
    exact⟨h3.cell (by omega),h3.frozen⟩
   have N4:=AS (show CntI c s' (bump cs kk) b g r w (w3.setCell ⟨g,kk,none⟩ (.int .i64 (wrap64 (cs[kk]?.getD 0+1)))) from by
    have hN:=N3.out
    obtain⟨F,-,-,h3,-⟩:=hN
    exact N3.out.turn (KS.set (KS.refl (fun x=>x=g) w3) (.inl rfl) kk _) (h3.bump2 (by rw[List.getD_eq_getElem?_getD])))
   have K4:=AS (KS.set (KS.refl (fun x=>x=g) w3) (.inl rfl) kk (.int .i64 (wrap64 (cs[kk]?.getD 0+1))) (g:=g))
   have HG:=AS (show w3.heap[g]?=some (.cells (cs.map fun v=>Value.int .i64 v).toArray 79 (0,0))/\wr.heap.size≠g from by
    have hN:=N3.out
    obtain⟨F,-,-,h3,-⟩:=hN
    refine⟨h3.1,fun e=>?_⟩
    have h:=X3.out
    rw[e,h3.1] at h
    simp at h)
   go_upto_if 48 with fail
   have X4:=AS (K4.out.at_ X3.out HG.out.2)
   have L4:=AS (L3.out.ks K4.out (fun x hx e=>own_apart_blk L3.out HG.out.1 (by decide) (by have e':x=g:=e;rw[<- e'];exact hx)))
   have D4:=AS (D3.out.ks K4.out (fun x hx e=>own_apart_blk D3.out HG.out.1 (by decide) (by have e':x=g:=e;rw[<- e'];exact hx)))
   generalize w3.setCell ⟨g,kk,none⟩ (.int .i64 (wrap64 (cs[kk]?.getD 0+1)))=W4 at N4 X4 L4 D4 ⊢
   clear cg zg N3 X3 L3 D3 K4
   go_cut [] (fun wx=>∃ cs2,cs2=(if (kk:Int)=1 then entryN (bump cs kk) ⟨k_,a_,b_,c_,d_⟩ s.way s'.way else bump cs kk)/\CntI c s' cs2 b g r w wx/\OwnE doneE (.slice Ad dk.length cd) dk wx)
   case first =>
    by_cases hk1:(kk:Int)=1
    ·have dk1:((kk:Int) == 1)=true:=by simp[hk1]
     obtain⟨he1,he2,he3⟩:=HEO2.out
     obtain⟨he4,he5,he6⟩:=he3 hk1
     have HE:=AS (And.intro (And.intro he1 he2) (And.intro he4 (And.intro he5 he6)))
     have HK1:=AS hk1
     have SH2:=AS (fun X (hb:Below W4.heap.size W4 X)=>(N4.out.below hb).shot HWS.out HC.out)
     have KEEP:=AS (show ∀ x,KS (fun y=>y=g) W4 x->(x.cell? ⟨wr.heap.size,0,none⟩=some (.int .i64 k_)/\x.cell? ⟨wr.heap.size,1,none⟩=some (.int .i64 a_)/\x.cell? ⟨wr.heap.size,2,none⟩=some (.int .i64 b_)/\x.cell? ⟨wr.heap.size,3,none⟩=some (.int .i64 c_)/\x.cell? ⟨wr.heap.size,4,none⟩=some (.int .i64 d_)) from fun x hb=>⟨cw (hb.at_ X4.out HG.out.2) 0,cw (hb.at_ X4.out HG.out.2) 1,cw (hb.at_ X4.out HG.out.2) 2,cw (hb.at_ X4.out HG.out.2) 3,cw (hb.at_ X4.out HG.out.2) 4⟩)
     clear he1 he2 he3 he4 he5 he6 hk1
     go_upto_region 12 with fail
     obtain⟨x0,x1,x2,x3,x4⟩:=KEEP.out W4 (KS.refl _ _)
     go_region_held3 (fun x=>x.cell? ⟨wr.heap.size,0,none⟩=some (.int .i64 k_)/\x.cell? ⟨wr.heap.size,1,none⟩=some (.int .i64 a_)/\x.cell? ⟨wr.heap.size,2,none⟩=some (.int .i64 b_)/\x.cell? ⟨wr.heap.size,3,none⟩=some (.int .i64 c_)/\x.cell? ⟨wr.heap.size,4,none⟩=some (.int .i64 d_)) ((refine KEEP.out _ ?_;(repeat (with_reducible first | exact KS.refl _ _ | exact K6.out | exact K5.out | apply KS.drew)))) ((first | (go_at_call 10;refine(SH2.out _ ?_).mono ?_;(focus ((repeat (with_reducible first | exact Below.refl _ _ | apply Below.drew))));rintro e w5 ⟨Aq,Ah2,Af2,np2,cp2,nh2,ch2,nf2,cf2,ps2,rfl,hS,hb5⟩;have B5:=AS (show Below W4.heap.size W4 w5 from(Below.drew (Below.refl _ _)).trans (hb5.mono (Nat.le_refl _)));have K5:=AS (KS.below (fun y=>y=g) B5.out);have N5:=AS (N4.out.below B5.out);have L5:=AS (L4.out.ks (KS.below (fun _=>False) B5.out) (fun _ _=>id));have D5:=AS (D4.out.ks (KS.below (fun _=>False) B5.out) (fun _ _=>id));have hnf2:nf2=s'.way.length:=hS.2.2.2.2.2.2.2;subst hnf2;have O5:=AS (show OwnE letE (.slice Af2 s'.way.length cf2) s'.way w5 from hS.2.2.2.2.2.1);clear hS hb5;simp only[shotV]) | (go_at_call 42;refine(entry_any N5.out.cnt L5.out O5.out ⟨own_apart_blk L5.out N5.out.cnt.1 (by decide),own_apart_blk O5.out N5.out.cnt.1 (by decide)⟩ k_ a_ b_ c_ d_ HE.out.2.1 HE.out.1 (by rw[kindsN_snd _ []];exact HE.out.2.2)).mono ?_;rintro e w6 ⟨rfl,hC6,hk6⟩;have K6:=AS (K5.out.trans hk6 (fun _ _ h=>h));have N6:=AS (N5.out.turn hk6 hC6);have D6:=AS (D5.out.ks hk6 (fun x hx e=>own_apart_blk D5.out N5.out.cnt.1 (by decide) (by have e':x=g:=e;rw[<- e'];exact hx)));clear hC6 hk6)))
     all_goals
      go_wp2_with fail
      go_meet
      exact⟨_,(if_pos HK1.out).symm,N6.out,D6.out⟩
    ·have dk1:((kk:Int) == 1)=false:=by simp[hk1]
     go_wp2_with fail
     go_meet
     exact⟨_,(if_neg hk1).symm,N4.out,D4.out⟩
   case rest =>
    obtain⟨cs2,hcs2,hN5,hD5⟩:=hcut
    rw[<- hcs2] at SN3
    have R5:=AS (show ∃ cs3,CntI c s' cs3 b g r w wc/\OwnE doneE (.slice Ad dk.length cd) dk wc/\doneN cs3 (dk.drop 0)=(cntL c (l.take (i+1))).2 from⟨cs2,hN5,hD5,by rw[SN3.out];rfl⟩)
    clear hN5 hD5 N4 D4 L4 X4 hcs2
    go_wp2_with fail
    go_loopw [15,57] (fun v15 v57 wr=>∃ j:Nat,v57=.int .i64 j/\j≤dk.length/\Aside0 (∃ cs3,CntI c s' cs3 b g r w wr/\OwnE doneE (.slice Ad dk.length cd) dk wr/\doneN cs3 (dk.drop j)=(cntL c (l.take (i+1))).2)) (fun _ v57 _=>dk.length+1 - (intOf v57).toNat)
    case atStart=>exact⟨0,rfl,by omega,R5⟩
    case round =>
     obtain⟨j,rfl,hj,RJ⟩:=hrel
     obtain⟨cs3,r1,r2,r3⟩:=RJ.out
     by_cases hjj:j < dk.length
     ·have q2:(0:Int)≤(j:Int):=by omega
      have q3:(j:Int) < (dk.length:Int):=by omega
      obtain⟨gd,cd2,e,hb3,hb4,hgd,hcell⟩:=own_some r2 hjj
      injection e with e1 e2 e3
      subst e1 e3
      have m0:wr.cell? ⟨gd,j * 7,none⟩=some (.int .i64 (dk.getD j done0).node):=(hcell 0 (by decide)).trans rfl
      have m1:wr.cell? ⟨gd,j * 7+1,none⟩=some (.int .i64 (dk.getD j done0).number):=(hcell 1 (by decide)).trans rfl
      have m2:wr.cell? ⟨gd,j * 7+2,none⟩=some (.int .i64 (dk.getD j done0).op.block):=(hcell 2 (by decide)).trans rfl
      have m3:wr.cell? ⟨gd,j * 7+3,none⟩=some (.bool (dk.getD j done0).op.write):=(hcell 3 (by decide)).trans rfl
      have m4:wr.cell? ⟨gd,j * 7+4,none⟩=some (.int .i64 (dk.getD j done0).op.value):=(hcell 4 (by decide)).trans rfl
      have m5:wr.cell? ⟨gd,j * 7+5,none⟩=some (.int .i64 (dk.getD j done0).value):=(hcell 5 (by decide)).trans rfl
      have m6:wr.cell? ⟨gd,j * 7+6,none⟩=some (.int .i64 (dk.getD j done0).step):=(hcell 6 (by decide)).trans rfl
      have hdr:dk.drop j=dk.getD j done0 :: dk.drop (j+1):=by rw[List.drop_eq_getElem_cons hjj,List.getD_eq_getElem?_getD,List.getElem?_eq_getElem hjj,Option.getD_some]
      rw[hdr] at r3
      obtain⟨x,hx⟩:∃ x,dk.getD j done0=x:=⟨_,rfl⟩
      rw[hx] at r3 m0 m1 m2 m3 m4 m5 m6
      clear hx hcell hdr
      obtain⟨nd,nu,⟨bl,wt,ov⟩,va,st⟩:=x
      simp only at m0 m1 m2 m3 m4 m5 m6
      have r3:doneN (bump cs3 (if wt then 6 else 5)) (dk.drop (j+1))=(cntL c (l.take (i+1))).2:=r3
      have N7:=AS (r1.below (below_alloc (Below.refl wr.heap.size wr) (.cells #[.int .i64 nd,.int .i64 nu,.int .i64 bl,.bool wt,.int .i64 ov,.int .i64 va,.int .i64 st] 59)))
      have D7:=AS (r2.ks (KS.below (fun _=>False) (below_alloc (Below.refl wr.heap.size wr) (.cells #[.int .i64 nd,.int .i64 nu,.int .i64 bl,.bool wt,.int .i64 ov,.int .i64 va,.int .i64 st] 59))) (fun _ _=>id))
      have X7:=AS (blk_new wr (.cells #[.int .i64 nd,.int .i64 nu,.int .i64 bl,.bool wt,.int .i64 ov,.int .i64 va,.int .i64 st] 59))
      have R3:=AS r3
      clear r1 r2 r3
      go_upto_region 16 with fail
      generalize wr.alloc (.cells #[.int .i64 nd,.int .i64 nu,.int .i64 bl,.bool wt,.int .i64 ov,.int .i64 va,.int .i64 st] 59)=W7 at N7 D7 X7 ⊢
      have xb3:=cw X7.out 3 (v:=.bool wt)
      have DA:=AS (show g∉foot (.slice (some ⟨gd,0,none⟩) dk.length cd) from own_apart_blk D7.out N7.out.cnt.1 (by decide))
      clear m0 m1 m2 m3 m4 m5 m6
      cases wt with
      | true =>
       have c6:W7.cell? ⟨g,6,none⟩=some (.int .i64 (cs3.getD 6 0)):=N7.out.cnt.cell (by decide)
       have z6:W7.frozen? ⟨g,6,none⟩=false:=N7.out.cnt.frozen
       have R4:=AS (show doneN (bump cs3 6) (dk.drop (j+1))=(cntL c (l.take (i+1))).2 from R3.out)
       go_wp2
       go_roundw
       case rel=>exact⟨j+1,by go_num,by omega,⟨⟨_,N7.out.turn (KS.set (KS.refl (fun x=>x=g) W7) (.inl rfl) 6 _) (N7.out.cnt.bump2 (j:=6) (by simp)),D7.out.ks (KS.set (KS.refl (fun x=>x=g) W7) (.inl rfl) 6 _) (fun x hx e=>DA.out (by have e':x=g:=e;rw[<- e'];exact hx)),R4.out⟩⟩⟩
       case measure=>simp[intOf];omega
      | false =>
       have c6:W7.cell? ⟨g,5,none⟩=some (.int .i64 (cs3.getD 5 0)):=N7.out.cnt.cell (by decide)
       have z6:W7.frozen? ⟨g,5,none⟩=false:=N7.out.cnt.frozen
       have R4:=AS (show doneN (bump cs3 5) (dk.drop (j+1))=(cntL c (l.take (i+1))).2 from R3.out)
       go_wp2
       go_roundw
       case rel=>exact⟨j+1,by go_num,by omega,⟨⟨_,N7.out.turn (KS.set (KS.refl (fun x=>x=g) W7) (.inl rfl) 5 _) (N7.out.cnt.bump2 (j:=5) (by simp)),D7.out.ks (KS.set (KS.refl (fun x=>x=g) W7) (.inl rfl) 5 _) (fun x hx e=>DA.out (by have e':x=g:=e;rw[<- e'];exact hx)),R4.out⟩⟩⟩
       case measure=>simp[intOf];omega
     ·have hjn:j=dk.length:=by omega
      subst hjn
      rw[List.drop_length] at r3
      have r3:cs3=(cntL c (l.take (i+1))).2:=r3
      have E1:=AS (show CntI c (cntL c (l.take (i+1))).1 (cntL c (l.take (i+1))).2 b g r w wr from by rw[<- r3,SN3.out];exact r1)
      clear r1 r2 r3
      go_wp2_with fail
      go_roundw
      case rel=>exact⟨i+1,by go_num,by omega,E1⟩
      case measure=>simp[intOf];omega
  ·have hin:i=l.length:=by omega
   subst hin
   have e1:l.take l.length=l:=List.take_length
   rw[e1] at RL
   obtain⟨F,-,-,h3,h4,-,-,h7,h8,h9,h10⟩:=RL.out
   obtain⟨w9,hst,hC9,hk9⟩:=store79 h4 h3.2
   have HST:=AS hst
   have C3:=AS h3
   have C9:=AS hC9
   have B9:=AS (h10.trans (hk9.toBelow (fun y hy=>by have hy':y=r:=hy;omega) h10.size))
   clear hst h3 h4 h7 h8 h9 h10 hk9 hC9
   go_wp2_with (first | (refine wpList_load79 rfl _ rfl g rfl _ C3.out ?_) | (refine wpList_store79 rfl _ _ rfl r rfl _ rfl w9 HST.out ?_) | fail)
   refine bodyPost_ret (v:=.tuple #[cntV (cntL c l).2,.int .i64 0]) (res17 C9.out _ rfl rfl) rfl ?_
   exact⟨rfl,B9.out⟩
end Go.Proofs.YtiebppkhaiofeaaGreat.K
