/- Part of the proof of TopTables: what functions of the program do. -/
import Derived.Test.YtiebppkhaiofeaaGreatM49
set_option maxHeartbeats 4000000
set_option maxRecDepth 100000
set_option linter.unusedVariables false
set_option linter.unusedSimpArgs false
namespace Go.Proofs.YtiebppkhaiofeaaGreat.K
open Go.RowKit Go.Proofs.YtiebppkhaiofeaaGreatW.PrintWords Go.Proofs.YtiebppkhaiofeaaGreat.S
attribute [local go_sem] World.cell?_alloc_some
open Go.ChangeMaps Go.MapKept
def TopI (c:Cfg) (s:S.World) (b:Nat) (Pr:Set_) (w0 w:Go.World):Prop:=∃ F:Set_,WldAt c s b F w/\(∀ x,F x->w0.heap.size≤x/\x < w.heap.size/\¬ Pr x)/\Below w0.heap.size w0 w
section
variable {c:Cfg} {s:S.World} {b:Nat} {Pr:Set_} {w0 w w':Go.World}
theorem TopI.below (h:TopI c s b Pr w0 w) (hb:Below w.heap.size w w'):TopI c s b Pr w0 w':=by
 obtain⟨F,h1,h2,h3⟩:=h
 have hs:=hb.size
 exact⟨F,h1.keep (KS.below (fun _=>False) hb) (fun x _ h=>⟨h,id⟩),fun x h=>⟨(h2 x h).1,by have:=(h2 x h).2.1;omega,(h2 x h).2.2⟩,h3.trans (hb.mono h3.size)⟩
theorem TopI.turn {G:Set_} (h:TopI c s b Pr w0 w) (hk:KS G w w') (hG:∀ x,G x->Pr x/\w0.heap.size≤x):TopI c s b Pr w0 w':=by
 obtain⟨F,h1,h2,h3⟩:=h
 have hs:=hk.size
 exact⟨F,h1.keep hk (fun x _ h=>⟨h,fun e=>(h2 x h).2.2 (hG x e).1⟩),fun x h=>⟨(h2 x h).1,by have:=(h2 x h).2.1;omega,(h2 x h).2.2⟩,h3.trans (hk.toBelow (fun y hy=>(hG y hy).2) h3.size)⟩
theorem TopI.step (h:TopI c s b Pr w0 w) (hPr:∀ x,Pr x->x < w.heap.size) (hs:WB c s) (e:Ent):Calls Tryz.prog 9 #[.pointer (some ⟨b,0,none⟩),entV e] w fun en w'=>∃ A n cp,en=.returned (.tuple #[.int .i64 (s.step c e).2.1,.slice A n cp])/\TopI c (s.step c e).1 b Pr w0 w'/\OwnE doneE (.slice A n cp) (s.step c e).2.2 w'/\KS (fun x=>w0.heap.size≤x/\¬ Pr x) w w':=by
 obtain⟨F,h1,h2,h3⟩:=h
 refine(worldStep_any h1 hs e).mono ?_
 rintro en w' ⟨A,n,cp,he,hW,hO,hk⟩
 have hz:=hk.size
 have hz0:=h3.size
 refine⟨A,n,cp,he,⟨fun x=>gr F w x/\x < w'.heap.size,hW.keep (KS.refl (fun _=>False) _) (fun x hx h=>⟨⟨h,hx⟩,id⟩),fun x h=>?_,h3.trans (hk.toBelow (fun y hy=>(h2 y hy).1) hz0)⟩,hO,hk.mono (fun x _ h=>⟨(h2 x h).1,(h2 x h).2.2⟩)⟩
 rcases h.1 with h' | h'
 ·exact⟨(h2 x h').1,h.2,(h2 x h').2.2⟩
 ·exact⟨by omega,h.2,fun hp=>by have:=hPr x hp;omega⟩
theorem TopI.shot (h:TopI c s b Pr w0 w) (hs:WOk c s) (hc:c.check=0):Calls Tryz.prog 10 #[.pointer (some ⟨b,0,none⟩)] w fun e w'=>∃ Ap Ah Af np cp nh ch nf cf ps,e=.returned (shotV s Ap Ah Af np cp nh ch nf cf)/\ShotV s Ap Ah Af np cp nh ch nf cf ps w.heap.size w'/\Below w.heap.size w w':=by
 obtain⟨F,h1,-⟩:=h
 exact worldShot_any h1 hs hc
theorem TopI.old (h:TopI c s b Pr w0 w):TopI c s b (fun x=>Pr x∨w.heap.size≤x) w0 w:=by
 obtain⟨F,h1,h2,h3⟩:=h
 exact⟨F,h1,fun x h=>⟨(h2 x h).1,(h2 x h).2.1,fun e=>by
  rcases e with e | e
  ·exact(h2 x h).2.2 e
  ·have:=(h2 x h).2.1;omega⟩,h3⟩
theorem TopI.mono {Pr':Set_} (h:TopI c s b Pr w0 w) (hp:∀ x,Pr' x->Pr x):TopI c s b Pr' w0 w:=by
 obtain⟨F,h1,h2,h3⟩:=h
 exact⟨F,h1,fun x h=>⟨(h2 x h).1,(h2 x h).2.1,fun e=>(h2 x h).2.2 (hp x e)⟩,h3⟩
theorem TopI.out (h:TopI c s b Pr w0 w):Below w0.heap.size w0 w:=by
 obtain⟨F,-,-,h3⟩:=h
 exact h3
end
theorem own_apart_map {α:Type} {E:El α} {v:Value} {xs:List α} {W:Go.World} {g:Nat} {es:Array MapEntry} {ck:Nat} (h:OwnE E v xs W) (hb:W.heap[g]?=some (.map es ck)):g∉foot v:=fun hx=>by
 rcases h.cases with ⟨rfl,-⟩ | ⟨g',cap,cur,rfl,hg,-⟩
 ·simp[foot_nil] at hx
 ·simp only[foot_slice,List.mem_singleton] at hx
  rw[<- hx,hb] at hg
  simp at hg
theorem MapI.ks {f:Int->Int} {b:Nat} {G:Set_} {w w':Go.World} (h:MapI f b w) (hk:KS G w w') (hG:¬ G b):MapI f b w':=by
 obtain⟨es,ck,g,h1,h2,h3⟩:=h
 exact⟨es,ck,g,hk.at_ h1 hG,h2,h3⟩
theorem MapI.new (w:Go.World):MapI (fun _=>0) w.heap.size (w.alloc (.map #[] 0)):=⟨#[],0,fun _=>none,blk_new w _,IM.empty,fun _=>rfl⟩
def KnownM (A:Int->S.Act) (b:Nat) (w:Go.World):Prop:=∃ es ck,∃ g:Int->Option S.Act,w.heap[b]?=some (.map es ck)/\IM es ck (fun k=>(g k).map actV)/\∀ k a,g k=some a->a=A k
theorem KnownM.new (A:Int->S.Act) (w:Go.World):KnownM A w.heap.size (w.alloc (.map #[] 0)):=⟨#[],0,fun _=>none,blk_new w _,IM.empty,fun _ _ h=>by cases h⟩
theorem KnownM.ks {A:Int->S.Act} {b:Nat} {G:Set_} {w w':Go.World} (h:KnownM A b w) (hk:KS G w w') (hG:¬ G b):KnownM A b w':=by
 obtain⟨es,ck,g,h1,h2,h3⟩:=h
 exact⟨es,ck,g,hk.at_ h1 hG,h2,h3⟩
theorem KnownM.look {A:Int->S.Act} {b:Nat} {w:Go.World} (h:KnownM A b w) (k:Int):∃ ok:Bool,∃ a:S.Act,(Instr.lookup 43 (.map (some b)) (.int .i64 k) true).run Tryz.prog w=.ok (.tuple #[actV a,.bool ok]) w/\(ok=true->a=A k):=by
 obtain⟨es,ck,g,h1,h2,h3⟩:=h
 have:=h2.look2 (P:=Tryz.prog) h1 under43 under3 (zero55 w) k
 cases e:g k with
 | none=>exact⟨false,act0,by rw[this,e];rfl,fun h=>by cases h⟩
 | some a=>exact⟨true,a,by rw[this,e];rfl,fun _=>h3 k a e⟩
theorem KnownM.put {A:Int->S.Act} {b:Nat} {w:Go.World} (h:KnownM A b w) (k:Int):∃ es ck,(Instr.mapUpdate 43 (.map (some b)) (.int .i64 k) (actV (A k))).run Tryz.prog w=.ok () (setBlock w b (.map es ck))/\KnownM A b (setBlock w b (.map es ck)):=by
 obtain⟨es,ck,g,h1,h2,h3⟩:=h
 obtain⟨es',ck',hr,hi⟩:=h2.put (P:=Tryz.prog) h1 under43 under3 k (actV (A k))
 refine⟨es',ck',hr,es',ck',fun j=>if j=k then some (A k) else g j,set_at h1 _,?_,fun j a hj=>?_⟩
 ·have e:(fun j=>(if j=k then some (A k) else g j:Option S.Act).map actV)=fput (fun j=>(g j).map actV) k (actV (A k)):=by
   funext j
   unfold fput
   by_cases q:j=k
   ·rw[if_pos q,if_pos q,Option.map_some]
   ·rw[if_neg q,if_neg q]
  rw[e];exact hi
 ·have hj':(if j=k then some (A k) else g j)=some a:=hj
  by_cases q:j=k
  ·rw[if_pos q] at hj'
   rw[q];exact(Option.some.inj hj').symm
  ·rw[if_neg q] at hj'
   exact h3 j a hj'
structure ShotQ (s:S.World) (Ap Af:Option Addr) (cp cf:Nat) (ps:List PlaceR) (w:Go.World):Prop where
 pls:OwnE placeE (.slice Ap ps.length cp) ps w
 len:ps.length=s.nodes.length
 fl:OwnE letE (.slice Af s.way.length cf) s.way w
 lns:∀ i:Nat,i < ps.length->∃ A n c,(ps.getD i placeE.d).lines=.slice A n c
 acs:∀ i:Nat,i < ps.length->∃ (A:Option Addr) (c:Nat) (L:List Int),(ps.getD i placeE.d).acts=.slice A L.length c/\OwnE actE (.slice A L.length c) (L.map (Table.actOf (s.nodes.getD i (S.Node.new i)).know)) w/\∀ k∈L,((s.nodes.getD i (S.Node.new i)).know.act k).isSome=true
theorem ShotQ.of {s:S.World} {Ap Ah Af:Option Addr} {np cp nh ch nf cf:Nat} {ps:List PlaceR} {B:Nat} {w:Go.World} (h:ShotV s Ap Ah Af np cp nh ch nf cf ps B w):np=ps.length/\nf=s.way.length/\ShotQ s Ap Af cp cf ps w:=by
 obtain⟨h1,h2,h3,h4,h5,h6,h7,h8⟩:=h
 subst h2 h8
 refine⟨rfl,rfl,h1,h3,h6,fun i hi=>?_,fun i hi=>?_⟩
 ·obtain⟨⟨ks,-,-,ho⟩,-⟩:=(h4.ok i hi).2.2.1
  obtain⟨A,c,e,-⟩:=ho.row
  exact⟨A,_,c,e⟩
 ·obtain⟨⟨L,-,hL,ho⟩,-⟩:=(h4.ok i hi).2.2.2
  obtain⟨A,c,e,-⟩:=ho.row
  rw[List.length_map] at e
  exact⟨A,c,L,e,e ▸ ho,fun k hk=>(hL k).1 hk⟩
theorem ShotQ.ks {s:S.World} {Ap Af:Option Addr} {cp cf:Nat} {ps:List PlaceR} {G:Set_} {w w':Go.World} (h:ShotQ s Ap Af cp cf ps w) (hk:KS G w w') (hG:∀ x,G x->∃ es ck,w.heap[x]?=some (.map es ck)):ShotQ s Ap Af cp cf ps w':=by
 refine⟨h.pls.ks hk fun x hx g=>?_,h.len,h.fl.ks hk fun x hx g=>?_,h.lns,fun i hi=>?_⟩
 ·obtain⟨es,ck,e⟩:=hG x g;exact own_apart_map h.pls e hx
 ·obtain⟨es,ck,e⟩:=hG x g;exact own_apart_map h.fl e hx
 ·obtain⟨A,c,L,e,ho,hl⟩:=h.acs i hi
  exact⟨A,c,L,e,ho.ks hk (fun x hx g=>by obtain⟨es,ck,e⟩:=hG x g;exact own_apart_map ho e hx),hl⟩
theorem entry_at {l:List Ent} {A:Option Addr} {w:Go.World} (h:RowE entE w A l) {i:Nat} (hi:i < l.length):∃ ad,A=some ad/\w.cell? (ad.add (i * 5))=some (.int .i64 (l.getD i ent0).kind)/\w.cell? ⟨(ad.add (i * 5)).block,(ad.add (i * 5)).off+1,none⟩=some (.int .i64 (l.getD i ent0).a)/\w.cell? ⟨(ad.add (i * 5)).block,(ad.add (i * 5)).off+2,none⟩=some (.int .i64 (l.getD i ent0).b)/\w.cell? ⟨(ad.add (i * 5)).block,(ad.add (i * 5)).off+3,none⟩=some (.int .i64 (l.getD i ent0).c)/\w.cell? ⟨(ad.add (i * 5)).block,(ad.add (i * 5)).off+4,none⟩=some (.int .i64 (l.getD i ent0).d):=by
 obtain⟨ad,rfl,hc⟩:=h i hi
 have d0:=hc 0 (by decide)
 have d1:=hc 1 (by decide)
 have d2:=hc 2 (by decide)
 have d3:=hc 3 (by decide)
 have d4:=hc 4 (by decide)
 rw[show entE.k=5 from rfl] at d0 d1 d2 d3 d4
 rw[<- Go.Deep.add_add] at d1 d2 d3 d4
 refine⟨ad,rfl,d0,?_,?_,?_,?_⟩
 ·have:(ad.add (i * 5)).add 1=⟨(ad.add (i * 5)).block,(ad.add (i * 5)).off+1,none⟩:=by simp[Addr.add]
  rw[<- this];exact d1
 ·have:(ad.add (i * 5)).add 2=⟨(ad.add (i * 5)).block,(ad.add (i * 5)).off+2,none⟩:=by simp[Addr.add]
  rw[<- this];exact d2
 ·have:(ad.add (i * 5)).add 3=⟨(ad.add (i * 5)).block,(ad.add (i * 5)).off+3,none⟩:=by simp[Addr.add]
  rw[<- this];exact d3
 ·have:(ad.add (i * 5)).add 4=⟨(ad.add (i * 5)).block,(ad.add (i * 5)).off+4,none⟩:=by simp[Addr.add]
  rw[<- this];exact d4
theorem played_ok {c:Cfg} {n:Nat} (h:played c n=true):c.check=0/\n≤300:=by
 unfold played great18 at h
 simp only[Bool.and_eq_true,beq_iff_eq,Bool.not_eq_true',Bool.or_eq_false_iff,decide_eq_false_iff_not] at h
 exact⟨h.1,by omega⟩
theorem tables_any (c:Cfg) (l:List Ent) {A:Option Addr} {lc:Nat} {w:Go.World} (hR:RowE entE w A l):Calls Tryz.prog 3 #[cfgV c,.slice A l.length lc] w (RV (.bool true) w):=by
 have RR:=AS hR
 have NW:=AS (fun X (hc:c.check=0)=>worldNew_any c hc X)
 have X0:=AS (blk_new w (.cells #[.int .i64 c.nodes,.int .i64 c.blocks,.int .i64 c.tokens,.int .i64 c.sets,.int .i64 c.ways,.int .i64 c.cap,.int .i64 c.wait,.int .i64 c.tries,.int .i64 c.policy] 23))
 have B0:=AS (below_alloc (Below.refl w.heap.size w) (.cells #[.int .i64 c.nodes,.int .i64 c.blocks,.int .i64 c.tokens,.int .i64 c.sets,.int .i64 c.ways,.int .i64 c.cap,.int .i64 c.wait,.int .i64 c.tries,.int .i64 c.policy] 23))
 have SZ:=AS (show(w.alloc (.cells #[.int .i64 c.nodes,.int .i64 c.blocks,.int .i64 c.tokens,.int .i64 c.sets,.int .i64 c.ways,.int .i64 c.cap,.int .i64 c.wait,.int .i64 c.tries,.int .i64 c.policy] 23)).heap.size=w.heap.size+1 from by rw[World.size_alloc])
 have PL:=AS (fun X=>played_any c A l.length lc X)
 clear hR
 simp only[cfgV] at NW PL ⊢
 go_enter Tryz.func3,Tryz.ntmps3
 go_upto_region 1 with fail
 generalize w.alloc (.cells #[.int .i64 c.nodes,.int .i64 c.blocks,.int .i64 c.tokens,.int .i64 c.sets,.int .i64 c.ways,.int .i64 c.cap,.int .i64 c.wait,.int .i64 c.tries,.int .i64 c.policy] 23)=W at X0 B0 SZ ⊢
 go_wp2_with fail
 refine(live_any W).mono ?_
 rintro e w1 ⟨rfl,hb1⟩
 have X1:=AS (blk_below X0.out hb1)
 have B1:=AS (B0.out.trans (hb1.mono B0.out.size))
 clear hb1
 have e0:=cw X1.out 0 (v:=.int .i64 c.nodes)
 have e1:=cw X1.out 1 (v:=.int .i64 c.blocks)
 have e2:=cw X1.out 2 (v:=.int .i64 c.tokens)
 have e3:=cw X1.out 3 (v:=.int .i64 c.sets)
 have e4:=cw X1.out 4 (v:=.int .i64 c.ways)
 have e5:=cw X1.out 5 (v:=.int .i64 c.cap)
 have e6:=cw X1.out 6 (v:=.int .i64 c.wait)
 have e7:=cw X1.out 7 (v:=.int .i64 c.tries)
 have e8:=cw X1.out 8 (v:=.int .i64 c.policy)
 go_wp2_with fail
 refine(PL.out w1).mono ?_
 rintro e w2 ⟨rfl,hb2⟩
 have X2:=AS (blk_below X1.out hb2)
 have B2:=AS (B1.out.trans (hb2.mono B1.out.size))
 clear hb2 e0 e1 e2 e3 e4 e5 e6 e7 e8
 obtain⟨pv,hpv⟩:∃ pv,played c l.length=pv:=⟨_,rfl⟩
 rw[hpv]
 cases pv with
 | false =>
  clear hpv
  go_wp2_with fail
  refine(live_any w2).mono ?_
  rintro e w3 ⟨rfl,hb3⟩
  have B3:=AS (B2.out.trans (hb3.mono B2.out.size))
  clear hb3
  go_wp2
  go_ret
  exact⟨rfl,B3.out⟩
 | true =>
  obtain⟨hc,hl⟩:=played_ok hpv
  have HC:=AS hc
  have HL:=AS hl
  have OK:=AS (fun i (hi:i≤l.length)=>runL_ok hc l (by omega) i hi)
  clear hpv hc hl
  have e0:=cw X2.out 0 (v:=.int .i64 c.nodes)
  have e1:=cw X2.out 1 (v:=.int .i64 c.blocks)
  have e2:=cw X2.out 2 (v:=.int .i64 c.tokens)
  have e3:=cw X2.out 3 (v:=.int .i64 c.sets)
  have e4:=cw X2.out 4 (v:=.int .i64 c.ways)
  have e5:=cw X2.out 5 (v:=.int .i64 c.cap)
  have e6:=cw X2.out 6 (v:=.int .i64 c.wait)
  have e7:=cw X2.out 7 (v:=.int .i64 c.tries)
  have e8:=cw X2.out 8 (v:=.int .i64 c.policy)
  go_wp2_with fail
  refine(NW.out w2 HC.out).mono ?_
  rintro e w3 ⟨b,rfl,hW3,hb3⟩
  have T3:=AS (show TopI c (S.World.new c) b (fun x=>x=w3.heap.size) w w3 from by
   have hz:=SZ.out
   have h2:=B2.out.size
   have h3:=hb3.size
   have hz2:w.heap.size≤w2.heap.size:=B2.out.size
   exact⟨fun x=>w2.heap.size≤x/\x < w3.heap.size,hW3.keep (KS.refl (fun _=>False) _) (fun x hx h=>⟨⟨h,hx⟩,id⟩),fun x h=>⟨by omega,h.2,fun e=>by have e':x=w3.heap.size:=e;omega⟩,B2.out.trans (hb3.mono B2.out.size)⟩)
  have ZN:=AS (show w.heap.size≤w3.heap.size from Nat.le_trans B2.out.size hb3.size)
  clear hW3 hb3 e0 e1 e2 e3 e4 e5 e6 e7 e8
  have hmm:=@run_makeMap Tryz.prog
  go_upto_region 7 with fail
  have R0:=AS (show ∃ f:Int->Int,TopI c (runL c (l.take 0)).1 b (fun x=>x=w3.heap.size) w (w3.alloc (.map #[] 0))/\MapI f w3.heap.size (w3.alloc (.map #[] 0))/\Newest c (runL c (l.take 0)).1 f from⟨fun _=>0,T3.out.below (below_alloc (Below.refl _ _) _),MapI.new w3,newest_new⟩)
  generalize w3.alloc (.map #[] 0)=w4 at R0 ⊢
  generalize w3.heap.size=nb at R0 ZN ⊢
  clear T3
  go_wp2_with fail
  go_loopw [9,10,11,13,15,17,18,19,39] (fun v9 v10 v11 v13 v15 v17 v18 v19 v39 wr=>∃ i:Nat,v39=.int .i64 i/\i≤l.length/\Aside0 (∃ f:Int->Int,TopI c (runL c (l.take i)).1 b (fun x=>x=nb) w wr/\MapI f nb wr/\Newest c (runL c (l.take i)).1 f)) (fun _ _ _ _ _ _ _ _ v39 _=>l.length+1 - (intOf v39).toNat)
  case atStart=>exact⟨0,rfl,by omega,R0⟩
  case round =>
   obtain⟨i,rfl,hi,RL⟩:=hrel
   obtain⟨f,r1,r2,r3⟩:=RL.out
   by_cases hcc:i < l.length
   ·obtain⟨ad,rfl,g0,g1,g2,g3,g4⟩:=entry_at RR.out hcc
    have q0:(0:Int)≤(i:Int):=by omega
    have q1:(i:Int) < (l.length:Int):=by omega
    have m0:=(r1.out.cell (World.block_lt_of_cell? w _ g0)).trans g0
    have m1:=(r1.out.cell (World.block_lt_of_cell? w _ g1)).trans g1
    have m2:=(r1.out.cell (World.block_lt_of_cell? w _ g2)).trans g2
    have m3:=(r1.out.cell (World.block_lt_of_cell? w _ g3)).trans g3
    have m4:=(r1.out.cell (World.block_lt_of_cell? w _ g4)).trans g4
    clear g0 g1 g2 g3 g4
    have hok:=OK.out i hi
    have SN:=runL_snoc c l hcc
    obtain⟨en,hen⟩:∃ en,l.getD i ent0=en:=⟨_,rfl⟩
    rw[hen] at m0 m1 m2 m3 m4 SN
    clear hen
    obtain⟨k_,a_,b_,c_,d_⟩:=en
    simp only at m0 m1 m2 m3 m4
    generalize runL c (l.take i)=a0 at r1 r3 hok SN
    obtain⟨s,rd⟩:=a0
    have hl3:=HL.out
    have hst:s.steps=i:=hok.2.1
    have hT0:WOk c s:=hok.1
    have NS:=AS (newest_step HC.out hT0.t (by omega) ⟨k_,a_,b_,c_,d_⟩ r3)
    have HWS:=AS (wok_step HC.out hT0 (by omega) ⟨k_,a_,b_,c_,d_⟩)
    have SN1:=AS (show(runL c (l.take (i+1))).1=(s.step c ⟨k_,a_,b_,c_,d_⟩).1 from by rw[SN];rfl)
    have BX:=AS (below_alloc (Below.refl wr.heap.size wr) (.cells #[.int .i64 k_,.int .i64 a_,.int .i64 b_,.int .i64 c_,.int .i64 d_] 33))
    have T1:=AS (r1.below BX.out)
    have M1:=AS (r2.ks (KS.below (fun _=>False) BX.out) id)
    have ST:=AS (T1.out.step (fun x hx=>by have e':x=nb:=hx;rw[e'];exact M1.out.lt) (WOk.bounds HC.out hT0 (by omega) rfl rfl rfl) ⟨k_,a_,b_,c_,d_⟩)
    have XB:=AS (blk_new wr (.cells #[.int .i64 k_,.int .i64 a_,.int .i64 b_,.int .i64 c_,.int .i64 d_] 33))
    clear r1 r2 r3 hok SN hst hT0
    simp only[entV] at ST
    go_upto_region 10 with fail
    generalize wr.alloc (.cells #[.int .i64 k_,.int .i64 a_,.int .i64 b_,.int .i64 c_,.int .i64 d_] 33)=W1 at BX T1 M1 ST XB ⊢
    have x0:=cw XB.out 0 (v:=.int .i64 k_)
    have x1:=cw XB.out 1 (v:=.int .i64 a_)
    have x2:=cw XB.out 2 (v:=.int .i64 b_)
    have x3:=cw XB.out 3 (v:=.int .i64 c_)
    have x4:=cw XB.out 4 (v:=.int .i64 d_)
    clear m0 m1 m2 m3 m4
    go_wp2_with fail
    refine ST.out.mono ?_
    rintro e w5 ⟨A5,n5,cp5,rfl,hT5,-,hk5⟩
    have M5:=AS (M1.out.ks hk5 (fun h=>h.2 rfl))
    have T5:=AS hT5
    clear hT5 hk5 ST T1 M1 BX XB x0 x1 x2 x3 x4
    generalize s.step c ⟨k_,a_,b_,c_,d_⟩=ST at T5 NS HWS SN1 ⊢
    obtain⟨s',rk,dk⟩:=ST
    simp only at NS HWS SN1 T5 ⊢
    have SH:=AS (T5.out.shot HWS.out HC.out)
    go_wp2_with fail
    refine SH.out.mono ?_
    rintro e w6 ⟨Ap,Ah,Af,np,cp,nh,ch,nf,cf,ps,rfl,hS,hb6⟩
    obtain⟨rfl,rfl,hQ⟩:=ShotQ.of hS
    have T6:=AS (T5.out.below hb6)
    have M6:=AS (M5.out.ks (KS.below (fun _=>False) hb6) id)
    have Q6:=AS hQ
    clear hS hb6 hQ SH T5 M5
    simp only[shotV]
    go_upto_region 12 with fail
    have BS:=AS (below_alloc (Below.refl w6.heap.size w6) (.cells #[.int .i64 s'.steps,.int .i64 s'.ticks,.slice Ap ps.length cp,.slice Ah nh ch,.slice Af s'.way.length cf] 41))
    have XS:=AS (blk_new w6 (.cells #[.int .i64 s'.steps,.int .i64 s'.ticks,.slice Ap ps.length cp,.slice Ah nh ch,.slice Af s'.way.length cf] 41))
    generalize w6.alloc (.cells #[.int .i64 s'.steps,.int .i64 s'.ticks,.slice Ap ps.length cp,.slice Ah nh ch,.slice Af s'.way.length cf] 41)=W6 at BS XS ⊢
    generalize w6.heap.size=q at XS ⊢
    obtain⟨Akn,hA⟩:=known_one HWS.out.t NS.out
    have KA:=AS hA
    clear hA
    go_upto_region 13 with fail
    have BM:=AS (below_alloc (Below.refl W6.heap.size W6) (.map #[] 0))
    have K7:=AS (KnownM.new Akn W6)
    have HKN:=AS (show ¬ nb=W6.heap.size from fun e=>by have h1:=M6.out.lt;have h2:=BS.out.size;omega)
    have hq:W6.heap.size=W6.heap.size:=rfl
    generalize W6.alloc (.map #[] 0)=W7 at BM K7 ⊢
    have B67:=AS (BS.out.trans (BM.out.mono BS.out.size))
    have T7:=AS (T6.out.old.below B67.out)
    have M7:=AS (M6.out.ks (KS.below (fun _=>False) B67.out) id)
    have Q7:=AS (Q6.out.ks (KS.below (fun _=>False) B67.out) (fun x h=>h.elim))
    have X7:=AS (blk_below XS.out BM.out)
    have KZ:=AS (show w.heap.size≤W6.heap.size/\w6.heap.size≤W6.heap.size from⟨(T6.out.below BS.out).out.size,BS.out.size⟩)
    clear hq
    generalize W6.heap.size=kb at K7 HKN KZ ⊢
    clear T6 M6 Q6 XS BS BM B67
    have k4:=cw X7.out 4 (v:=.slice Af s'.way.length cf)
    obtain⟨F1,hF1⟩:∃ F1,s'.way.foldl newestF f=F1:=⟨_,rfl⟩
    rw[hF1] at NS KA
    have L0:=AS (show ∃ fj:Int->Int,KS (fun x=>x=nb) W7 W7/\MapI fj nb W7/\(s'.way.drop 0).foldl newestF fj=F1 from⟨f,KS.refl _ _,M7.out,hF1⟩)
    clear hF1 hmm
    go_wp2
    go_loopw [13,52] (fun v13 v52 wr=>∃ j:Nat,v52=.int .i64 j/\j≤s'.way.length/\Aside0 (∃ fj:Int->Int,KS (fun x=>x=nb) W7 wr/\MapI fj nb wr/\(s'.way.drop j).foldl newestF fj=F1)) (fun _ v52 _=>s'.way.length+1 - (intOf v52).toNat)
    case atStart=>exact⟨0,rfl,by omega,L0⟩
    case round =>
     obtain⟨j,rfl,hj,RJ⟩:=hrel
     obtain⟨fj,s1,s2,s3⟩:=RJ.out
     have HNM:=AS (show ∀ x,x=nb->∃ es ck,W7.heap[x]?=some (.map es ck) from fun x e=>by
      obtain⟨es,ck,g,h1,-⟩:=M7.out
      exact⟨es,ck,by rw[e];exact h1⟩)
     by_cases hjj:j < s'.way.length
     ·have p0:(0:Int)≤(j:Int):=by omega
      have p1:(j:Int) < (s'.way.length:Int):=by omega
      have QJ:=AS (Q7.out.ks s1 HNM.out)
      obtain⟨gf,cf2,e,hb5,hb6,hgf,hcell⟩:=own_some QJ.out.fl hjj
      injection e with e1 e2 e3
      subst e1 e3
      have z0_:wr.cell? ⟨gf,j * 11,none⟩=some (.int .i64 (s'.way.getD j let0).kind):=(hcell 0 (by decide)).trans rfl
      have z1_:wr.cell? ⟨gf,j * 11+1,none⟩=some (.int .i64 (s'.way.getD j let0).src):=(hcell 1 (by decide)).trans rfl
      have z2_:wr.cell? ⟨gf,j * 11+2,none⟩=some (.int .i64 (s'.way.getD j let0).dst):=(hcell 2 (by decide)).trans rfl
      have z3_:wr.cell? ⟨gf,j * 11+3,none⟩=some (.int .i64 (s'.way.getD j let0).block):=(hcell 3 (by decide)).trans rfl
      have z4_:wr.cell? ⟨gf,j * 11+4,none⟩=some (.int .i64 (s'.way.getD j let0).seq):=(hcell 4 (by decide)).trans rfl
      have z5_:wr.cell? ⟨gf,j * 11+5,none⟩=some (.int .i64 (s'.way.getD j let0).who):=(hcell 5 (by decide)).trans rfl
      have z6_:wr.cell? ⟨gf,j * 11+6,none⟩=some (.bool (s'.way.getD j let0).write):=(hcell 6 (by decide)).trans rfl
      have z7_:wr.cell? ⟨gf,j * 11+7,none⟩=some (.int .i64 (s'.way.getD j let0).bun.count):=(hcell 7 (by decide)).trans rfl
      have z8_:wr.cell? ⟨gf,j * 11+8,none⟩=some (.bool (s'.way.getD j let0).bun.owner):=(hcell 8 (by decide)).trans rfl
      have z9_:wr.cell? ⟨gf,j * 11+9,none⟩=some (.bool (s'.way.getD j let0).bun.has):=(hcell 9 (by decide)).trans rfl
      have z10_:wr.cell? ⟨gf,j * 11+10,none⟩=some (.int .i64 (s'.way.getD j let0).bun.data):=(hcell 10 (by decide)).trans rfl
      have hdr:s'.way.drop j=s'.way.getD j let0 :: s'.way.drop (j+1):=by rw[List.drop_eq_getElem_cons hjj,List.getD_eq_getElem?_getD,List.getElem?_eq_getElem hjj,Option.getD_some]
      rw[hdr,List.foldl_cons] at s3
      obtain⟨x,hx⟩:∃ x,s'.way.getD j let0=x:=⟨_,rfl⟩
      rw[hx] at s3 z0_ z1_ z2_ z3_ z4_ z5_ z6_ z7_ z8_ z9_ z10_
      clear hx hcell hdr
      obtain⟨xk,xf,xt,xb,xq,xw,xr,⟨xc,xo,xh,xd⟩⟩:=x
      simp only at z0_ z1_ z2_ z3_ z4_ z5_ z6_ z7_ z8_ z9_ z10_
      unfold newestF at s3
      simp only at s3
      have MA:=AS (s2.ks (KS.below (fun _=>False) (below_alloc (Below.refl wr.heap.size wr) (.cells #[.int .i64 xk,.int .i64 xf,.int .i64 xt,.int .i64 xb,.int .i64 xq,.int .i64 xw,.bool xr,.int .i64 xc,.bool xo,.bool xh,.int .i64 xd] 47))) id)
      have KSA:=AS (KS.alloc s1 (.cells #[.int .i64 xk,.int .i64 xf,.int .i64 xt,.int .i64 xb,.int .i64 xq,.int .i64 xw,.bool xr,.int .i64 xc,.bool xo,.bool xh,.int .i64 xd] 47))
      have XA:=AS (blk_new wr (.cells #[.int .i64 xk,.int .i64 xf,.int .i64 xt,.int .i64 xb,.int .i64 xq,.int .i64 xw,.bool xr,.int .i64 xc,.bool xo,.bool xh,.int .i64 xd] 47))
      have S3:=AS s3
      clear s1 s2 s3
      go_upto_region 16 with fail
      generalize wr.alloc (.cells #[.int .i64 xk,.int .i64 xf,.int .i64 xt,.int .i64 xb,.int .i64 xq,.int .i64 xw,.bool xr,.int .i64 xc,.bool xo,.bool xh,.int .i64 xd] 47)=Wa at MA KSA XA ⊢
      have y0:=cw XA.out 0 (v:=.int .i64 xk)
      have y3:=cw XA.out 3 (v:=.int .i64 xb)
      have y4:=cw XA.out 4 (v:=.int .i64 xq)
      clear z0_ z1_ z2_ z3_ z4_ z5_ z6_ z7_ z8_ z9_ z10_
      by_cases hxk:xk=4
      ·have s3:=S3.out
       rw[if_pos hxk] at s3
       have R3:=AS s3
       have dk:(xk == 4)=true:=by simp[hxk]
       have HXK:=AS hxk
       clear s3 hxk
       have lk:=MA.out.look xb
       obtain⟨es,ck,hr,hm⟩:=MA.out.put xb (max (fj xb) xq)
       have HM:=AS hm
       clear hm
       go_wp2
       go_roundw
       case rel=>exact⟨j+1,by go_num,by omega,⟨⟨_,KS.block KSA.out (.inl rfl) _,HM.out,R3.out⟩⟩⟩
       case measure=>simp[intOf];omega
      ·have s3:=S3.out
       rw[if_neg hxk] at s3
       have R3:=AS s3
       have dk:(xk == 4)=false:=by simp[hxk]
       clear s3
       go_wp2
       go_roundw
       case rel=>exact⟨j+1,by go_num,by omega,⟨⟨_,KSA.out,MA.out,R3.out⟩⟩⟩
       case measure=>simp[intOf];omega
     ·have hjn:j=s'.way.length:=by omega
      subst hjn
      rw[List.drop_length] at s3
      have s3:fj=F1:=s3
      subst s3
      have Q8:=AS (Q7.out.ks s1 HNM.out)
      have M8:=AS s2
      have T8:=AS (T7.out.turn s1 (fun x e=>⟨.inl e,by have e':x=nb:=e;rw[e'];exact ZN.out⟩))
      have K8:=AS (K7.out.ks s1 (fun e=>HKN.out (by have e':kb=nb:=e;exact e'.symm)))
      have X8:=AS (s1.at_ X7.out (fun e=>by
       have e':q=nb:=e
       obtain⟨es,ck,h⟩:=HNM.out nb rfl
       rw[<- e',X7.out] at h
       simp at h))
      clear s1 s2 RJ
      go_upto_region 19 with fail
      have k2:=cw X8.out 2 (v:=.slice Ap ps.length cp)
      generalize wr=W8 at Q8 M8 T8 K8 X8 k2 ⊢
      have N0:=AS (show KS (fun x=>x=kb) W8 W8/\KnownM Akn kb W8 from⟨KS.refl _ _,K8.out⟩)
      have HKM:=AS (show ∀ x,x=kb->∃ es ck,W8.heap[x]?=some (.map es ck) from fun x e=>by
       obtain⟨es,ck,g,h1,-⟩:=K8.out
       exact⟨es,ck,by rw[e];exact h1⟩)
      clear K7 M7 T7 Q7 X7 k4 HNM
      go_wp2
      go_loopw [15,17,18,19,73] (fun v15 v17 v18 v19 v73 wr=>∃ a:Nat,v73=.int .i64 a/\a≤ps.length/\Aside0 (KS (fun x=>x=kb) W8 wr/\KnownM Akn kb wr)) (fun _ _ _ _ v73 _=>ps.length+1 - (intOf v73).toNat)
      case atStart=>exact⟨0,rfl,by omega,N0⟩
      case round =>
       obtain⟨a,rfl,ha,RA⟩:=hrel
       obtain⟨u1,u2⟩:=RA.out
       by_cases haa:a < ps.length
       ·have p0:(0:Int)≤(a:Int):=by omega
        have p1:(a:Int) < (ps.length:Int):=by omega
        have QA:=AS (Q8.out.ks u1 HKM.out)
        obtain⟨gp,cp3,e,hb5,hb6,hgp,hcell⟩:=own_some QA.out.pls haa
        injection e with e1 e2 e3
        subst e1 e3
        obtain⟨Al,nl,cl9,hAl⟩:=QA.out.lns a haa
        obtain⟨Ac,cc,L,hAc,hO,hL⟩:=Q8.out.acs a haa
        have n0_:wr.cell? ⟨gp,a * 6,none⟩=some ((ps.getD a placeE.d).lines):=(hcell 0 (by decide)).trans rfl
        have n1_:wr.cell? ⟨gp,a * 6+1,none⟩=some (.bool (ps.getD a placeE.d).busy):=(hcell 1 (by decide)).trans rfl
        have n2_:wr.cell? ⟨gp,a * 6+2,none⟩=some (.int .i64 (ps.getD a placeE.d).op.block):=(hcell 2 (by decide)).trans rfl
        have n3_:wr.cell? ⟨gp,a * 6+3,none⟩=some (.bool (ps.getD a placeE.d).op.write):=(hcell 3 (by decide)).trans rfl
        have n4_:wr.cell? ⟨gp,a * 6+4,none⟩=some (.int .i64 (ps.getD a placeE.d).op.value):=(hcell 4 (by decide)).trans rfl
        have n5_:wr.cell? ⟨gp,a * 6+5,none⟩=some ((ps.getD a placeE.d).acts):=(hcell 5 (by decide)).trans rfl
        rw[hAl] at n0_
        rw[hAc] at n5_
        obtain⟨plv,hplv⟩:∃ p,ps.getD a placeE.d=p:=⟨_,rfl⟩
        rw[hplv] at n1_ n2_ n3_ n4_
        obtain⟨pl,pbu,⟨pob,pow,pov⟩,pac,pz1,pz2⟩:=plv
        simp only at n1_ n2_ n3_ n4_
        have AF:=AS (show ∀ k∈L,Table.actOf (s'.nodes.getD a (S.Node.new a)).know k=Akn (Table.actOf (s'.nodes.getD a (S.Node.new a)).know k).block/\(Table.actOf (s'.nodes.getD a (S.Node.new a)).know k).seq=fj (Table.actOf (s'.nodes.getD a (S.Node.new a)).know k).block from fun k hk=>by
         obtain⟨a1,h1⟩:=Option.isSome_iff_exists.1 (hL k hk)
         obtain⟨g1,g2,g3⟩:=KA.out _ (getD_mem (S.Node.new a) (by rw[<- Q8.out.len];exact haa)) k a1 h1
         have e:Table.actOf (s'.nodes.getD a (S.Node.new a)).know k=a1:=by unfold Table.actOf;rw[h1];rfl
         rw[e,g1]
         exact⟨g2,g3⟩)
        have OA:=AS hO
        have XP:=AS (blk_new wr (.cells #[.slice Al nl cl9,.bool pbu,.int .i64 pob,.bool pow,.int .i64 pov,.slice Ac L.length cc] 53))
        have D0:=AS (show KS (fun x=>x=kb) W8 (wr.alloc (.cells #[.slice Al nl cl9,.bool pbu,.int .i64 pob,.bool pow,.int .i64 pov,.slice Ac L.length cc] 53))/\KnownM Akn kb (wr.alloc (.cells #[.slice Al nl cl9,.bool pbu,.int .i64 pob,.bool pow,.int .i64 pov,.slice Ac L.length cc] 53)) from⟨KS.alloc u1 _,u2.ks (KS.below (fun _=>False) (below_alloc (Below.refl _ _) _)) id⟩)
        clear u1 u2 RA hAl hAc hO hL hcell hplv
        go_upto_region 22 with fail
        generalize wr.alloc (.cells #[.slice Al nl cl9,.bool pbu,.int .i64 pob,.bool pow,.int .i64 pov,.slice Ac L.length cc] 53)=Wb at XP D0 ⊢
        have k5:=cw XP.out 5 (v:=.slice Ac L.length cc)
        clear n0_ n1_ n2_ n3_ n4_ n5_
        go_wp2
        go_loopw [17,18,19,80] (fun v17 v18 v19 v80 wr=>∃ d:Nat,v80=.int .i64 d/\d≤L.length/\Aside0 (KS (fun x=>x=kb) W8 wr/\KnownM Akn kb wr)) (fun _ _ _ v80 _=>L.length+1 - (intOf v80).toNat)
        case atStart=>exact⟨0,rfl,by omega,D0⟩
        case round =>
         obtain⟨d,rfl,hd,RD⟩:=hrel
         obtain⟨v1,v2⟩:=RD.out
         by_cases hdd:d < L.length
         ·have p2:(0:Int)≤(d:Int):=by omega
          have p3:(d:Int) < (L.length:Int):=by omega
          have OD:=AS (OA.out.ks v1 (fun x hx e=>by
           obtain⟨es,ck,h⟩:=HKM.out x e
           exact own_apart_map OA.out h hx))
          have hdm:d < (L.map (Table.actOf (s'.nodes.getD a (S.Node.new a)).know)).length:=by rw[List.length_map];exact hdd
          obtain⟨ga,ca3,e,hb7,hb8,hga,hcell⟩:=own_some OD.out hdm
          injection e with e1 e2 e3
          subst e1 e3
          have c0_:wr.cell? ⟨ga,d * 3,none⟩=some (.int .i64 ((L.map (Table.actOf (s'.nodes.getD a (S.Node.new a)).know)).getD d act0).block):=(hcell 0 (by decide)).trans rfl
          have c1_:wr.cell? ⟨ga,d * 3+1,none⟩=some (.int .i64 ((L.map (Table.actOf (s'.nodes.getD a (S.Node.new a)).know)).getD d act0).node):=(hcell 1 (by decide)).trans rfl
          have c2_:wr.cell? ⟨ga,d * 3+2,none⟩=some (.int .i64 ((L.map (Table.actOf (s'.nodes.getD a (S.Node.new a)).know)).getD d act0).seq):=(hcell 2 (by decide)).trans rfl
          have AX:((L.map (Table.actOf (s'.nodes.getD a (S.Node.new a)).know)).getD d act0)=Akn ((L.map (Table.actOf (s'.nodes.getD a (S.Node.new a)).know)).getD d act0).block/\((L.map (Table.actOf (s'.nodes.getD a (S.Node.new a)).know)).getD d act0).seq=fj ((L.map (Table.actOf (s'.nodes.getD a (S.Node.new a)).know)).getD d act0).block:=by
           have e:(L.map (Table.actOf (s'.nodes.getD a (S.Node.new a)).know)).getD d act0=Table.actOf (s'.nodes.getD a (S.Node.new a)).know (L[d]'hdd):=by
            rw[List.getD_eq_getElem?_getD,List.getElem?_map,List.getElem?_eq_getElem hdd];rfl
           rw[e]
           exact AF.out _ (List.getElem_mem hdd)
          obtain⟨x,hx⟩:∃ x,(L.map (Table.actOf (s'.nodes.getD a (S.Node.new a)).know)).getD d act0=x:=⟨_,rfl⟩
          rw[hx] at c0_ c1_ c2_ AX
          rw[List.length_map] at hb8 e2
          clear hx hcell hdm e2
          obtain⟨ab,an,aq⟩:=x
          simp only at c0_ c1_ c2_ AX
          have XA:=AS (blk_new wr (.cells #[.int .i64 ab,.int .i64 an,.int .i64 aq] 55))
          have KSA:=AS (KS.alloc v1 (.cells #[.int .i64 ab,.int .i64 an,.int .i64 aq] 55))
          have KMA:=AS (v2.ks (KS.below (fun _=>False) (below_alloc (Below.refl wr.heap.size wr) (.cells #[.int .i64 ab,.int .i64 an,.int .i64 aq] 55))) id)
          have AXX:=AS AX
          clear v1 v2 RD AX
          go_upto_region 25 with fail
          generalize wr.alloc (.cells #[.int .i64 ab,.int .i64 an,.int .i64 aq] 55)=Wc at XA KSA KMA ⊢
          have y0:=cw XA.out 0 (v:=.int .i64 ab)
          obtain⟨ok,⟨b0_,b1_,b2_⟩,hlk,hok⟩:=KMA.out.look ab
          simp only[actV] at hlk
          have HOK:=AS hok
          clear hok c0_ c1_ c2_
          go_upto_region 26 with fail
          have XB:=AS (blk_new Wc (.cells #[.int .i64 b0_,.int .i64 b1_,.int .i64 b2_] 55))
          have XC:=AS (blk_alloc XA.out (.cells #[.int .i64 b0_,.int .i64 b1_,.int .i64 b2_] 55))
          have KSB:=AS (KS.alloc KSA.out (.cells #[.int .i64 b0_,.int .i64 b1_,.int .i64 b2_] 55))
          have KMB:=AS (KMA.out.ks (KS.below (fun _=>False) (below_alloc (Below.refl Wc.heap.size Wc) (.cells #[.int .i64 b0_,.int .i64 b1_,.int .i64 b2_] 55))) id)
          generalize Wc.alloc (.cells #[.int .i64 b0_,.int .i64 b1_,.int .i64 b2_] 55)=Wd at XB XC KSB KMB ⊢
          clear hlk y0
          have y0:=cw XC.out 0 (v:=.int .i64 ab)
          have y1:=cw XC.out 1 (v:=.int .i64 an)
          have y2:=cw XC.out 2 (v:=.int .i64 aq)
          have w0:=cw XB.out 0 (v:=.int .i64 b0_)
          have w1_:=cw XB.out 1 (v:=.int .i64 b1_)
          have w2_:=cw XB.out 2 (v:=.int .i64 b2_)
          have hsame:ok=true->b0_=ab/\b1_=an/\b2_=aq:=fun h=>by
           have h1:=(HOK.out h).trans AXX.out.1.symm
           injection h1 with h1 h2 h3
           exact⟨h1,h2,h3⟩
          obtain⟨es,ck,hput,hkm⟩:=KMB.out.put ab
          rw[<- AXX.out.1] at hput
          simp only[actV] at hput
          have HKM2:=AS hkm
          have KSE:=AS (KS.block (g:=kb) KSB.out (.inl rfl) (.map es ck))
          have XE:=AS (show(setBlock Wd kb (.map es ck)).heap[wr.heap.size]?=some (.cells #[.int .i64 ab,.int .i64 an,.int .i64 aq] 55 (0,0)) from by
           obtain⟨es2,ck2,g2,h2,-⟩:=KMB.out
           have hne:wr.heap.size≠kb:=fun e=>by
            have h:=XC.out
            rw[e,h2] at h
            simp at h
           exact(set_far h2 _ hne).trans XC.out)
          have ME:=AS (show MapI fj nb (setBlock Wd kb (.map es ck)) from M8.out.ks KSE.out (fun e=>HKN.out e))
          have hlk2:=ME.out.look ab
          have hf:fj ab=aq:=AXX.out.2.symm
          rw[hf] at hlk2
          clear hkm hf
          have f0:=cw XE.out 0 (v:=.int .i64 ab)
          have f2:=cw XE.out 2 (v:=.int .i64 aq)
          cases ok with
          | false =>
           clear hsame
           go_wp2
           go_roundw
           case rel=>exact⟨d+1,by go_num,by omega,⟨⟨KSE.out,HKM2.out⟩⟩⟩
           case measure=>simp[intOf];omega
          | true =>
           obtain⟨rfl,rfl,rfl⟩:=hsame rfl
           go_wp2
           go_roundw
           case rel=>exact⟨d+1,by go_num,by omega,⟨⟨KSE.out,HKM2.out⟩⟩⟩
           case measure=>simp[intOf];omega
         ·have hdn:d=L.length:=by omega
          subst hdn
          clear v1 v2
          go_wp2
          go_roundw
          case rel=>exact⟨a+1,by go_num,by omega,RD⟩
          case measure=>simp[intOf];omega
       ·have hin:a=ps.length:=by omega
        subst hin
        have T9:=AS (show TopI c (runL c (l.take (i+1))).1 b (fun x=>x=nb) w wr from by
         rw[SN1.out]
         exact(T8.out.turn u1 (fun x e=>by
          have e':x=kb:=e
          rw[e'];exact⟨.inr KZ.out.2,KZ.out.1⟩)).mono (fun x e=>.inl e))
        have M9:=AS (M8.out.ks u1 (fun e=>HKN.out e))
        have N9:=AS (show Newest c (runL c (l.take (i+1))).1 fj from by rw[SN1.out];exact NS.out)
        clear u1 u2
        go_wp2
        go_roundw
        case rel=>exact⟨i+1,by go_num,by omega,⟨⟨fj,T9.out,M9.out,N9.out⟩⟩⟩
        case measure=>simp[intOf];omega
   ·clear r1 r2 r3
    obtain⟨f,r1,-,-⟩:=RL.out
    have B9:=AS r1.out
    clear r1
    go_wp2
    go_ret
    exact⟨rfl,B9.out⟩
end Go.Proofs.YtiebppkhaiofeaaGreat.K
