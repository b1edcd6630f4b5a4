/- Part of the proof of TopStarver: what functions of the program do. -/
import Derived.Test.YtiebppkhaiofeaaGreatS19
set_option maxHeartbeats 4000000
set_option maxRecDepth 100000
set_option linter.unusedVariables false
set_option linter.unusedSimpArgs false
namespace Go.Proofs.YtiebppkhaiofeaaGreat.K
open Go.RowKit Go.Proofs.YtiebppkhaiofeaaGreatW.PrintWords Go.Proofs.YtiebppkhaiofeaaGreat.S
attribute [local go_sem] World.cell?_alloc_some
open Go.ChangeMaps Go.MapKept
theorem set_kn (p:ARowR) (m:Nat) (u:Bool) (hm:m < 64) (hk1:(p.r.knows.set m u).length=64):arowC ⟨{ p.r with knows:=p.r.knows.set m u },p.q,p.h,hk1⟩=(arowC p).set (6+m) (.bool u):=by
 have hp:=p.hk
 unfold arowC
 simp only
 rw[List.set_append,List.set_append]
 rw[if_pos (by simp[hp];omega),if_neg (by simp)]
 simp[List.map_set]
theorem set_en (p:ARowR) (u:Bool):arowC ⟨{ p.r with ending:=u },p.q,p.h,p.hk⟩=(arowC p).set 5 (.bool u):=by
 unfold arowC
 simp
def frst (j:Nat):List Bool:=(List.range 64).map fun(q:Nat)=>decide (q < j)
theorem frst_len (j:Nat):(frst j).length=64:=by simp[frst]
theorem frst_zero:frst 0=zK:=by decide
theorem frst_set (j:Nat) (hj:j < 64):(frst j).set j true=frst (j+1):=by
 refine List.ext_getElem? fun q=>?_
 unfold frst
 rw[List.getElem?_set]
 simp only[List.length_map,List.length_range,List.getElem?_map]
 by_cases e:j=q
 ·subst e
  rw[if_pos rfl,if_pos hj,List.getElem?_range hj]
  simp
 ·rw[if_neg e]
  by_cases hq:q < 64
  ·rw[List.getElem?_range hq]
   simp only[Option.map_some,Option.some.injEq,decide_eq_decide]
   omega
  ·rw[List.getElem?_eq_none (by simp;omega)]
   rfl
theorem all_frst (N:Int) (h0:0≤N):(List.range 64).map (fun(i:Nat)=>decide ((i:Int) < N))=frst N.toNat:=by
 unfold frst
 refine List.map_congr_left fun q _=>?_
 exact decide_eq_decide.2 (by omega)
def bc213 (bs:List Bool):Obj:=.cells (bs.map fun b=>Value.bool b).toArray 213
theorem bc_set {W:Go.World} {a:Nat} {bs:List Bool} (h:W.heap[a]?=some (bc213 bs)) (j:Nat) (u:Bool):(W.setCell ⟨a,j,none⟩ (.bool u)).heap[a]?=some (bc213 (bs.set j u)):=by
 refine(blk_set h j (.bool u)).trans ?_
 unfold bc213
 congr 2
 apply Array.toList_inj.1
 simp[List.map_set]
theorem bc_cell {W:Go.World} {a:Nat} {bs:List Bool} (h:W.heap[a]?=some (bc213 bs)) {j:Nat} (hj:j < bs.length):W.cell? ⟨a,j,none⟩=some (.bool (bs.getD j false)):=by
 refine(blk_cell h j).trans ?_
 simp[List.getD_eq_getElem?_getD,hj]
theorem bc_range {W:Go.World} {a:Nat} {bs:List Bool} (h:W.heap[a]?=some (bc213 bs)):W.rangeAt a 0 (bs.map fun b=>Value.bool b):=fun j v hv=>by
 rw[Nat.zero_add,blk_cell h j]
 simpa using hv
section
variable {op:Oper} {a:Act} {w:Go.World} {K:Act->Go.World->Prop} {Q:Exit->Act->Go.World->Prop}
theorem wp_load213 (x:Operand) (ho:op.op=.load 213 x) (g o:Nat) (hx:a.eval x=.pointer (some ⟨g,o,none⟩)) (bs:List Bool) (hl:bs.length=64) (hr:w.rangeAt g o (bs.map fun b=>Value.bool b)) (h:K (a.put op.dst (bsV bs)) w):op.wp Tryz.prog a w K Q :=
 wp_load_mid (P:=Tryz.prog) 213 x ho g o hx (bs.map fun b=>Value.bool b) (.array 64 4) hr under213 rfl (by rw[List.length_map,hl];exact size213) h
theorem guard213:Tryz.prog.eqGuardType Tryz.prog.depth 213=false:=by kernel_rfl
theorem wp_neq213 (x y:Operand) (t:TypeId) (ho:op.op=.binOp .neq 213 x y t) (xs ys:List Bool) (hx:a.eval x=bsV xs) (hy:a.eval y=bsV ys) (hl:xs.length=64) (hm:ys.length=64) (h:K (a.put op.dst (.bool (!(xs == ys)))) w):op.wp Tryz.prog a w K Q:=by
 have hg:(eqGuard .neq 213 x y (bsV xs) (bsV ys)).run Tryz.prog w=.ok () w:=run_eqGuard_agg w .neq 213 x y _ _ guard213
 unfold Oper.wp execOp
 simp only[ho,hx,hy,Sem.run_bind,hg,neq213 w xs ys hl hm,Result.andThen_ok]
 exact h
end
theorem arbAck_any {a:Arb} {b:Nat} {F:Set_} {w:Go.World} (hA:ArbX a b F w) (k s n:Int):Calls Tryz.prog 128 #[.pointer (some ⟨b,0,none⟩),.int .i64 k,.int .i64 s,.int .i64 n] w (ArbP (actO (a.ack k s n).2) (a.ack k s n).1 b F w):=by
 have AB:=AS hA
 obtain⟨g,cap,rs,h⟩:=hA
 have hlen:=h.len
 have hack:a.ack k s n=if !a.is k n then (a,none) else if !(a.row k).ending || (a.row k).active.seq != s then (a,none) else if (a.row k).knows.set n.toNat true≠(List.range 64).map (fun(i:Nat)=>decide ((i:Int) < a.nodes)) then (a.setRow k { a.row k with knows:=(a.row k).knows.set n.toNat true },none) else (a.setRow k { a.row k with knows:=(a.row k).knows.set n.toNat true,ending:=false }).next k:=rfl
 have HAK:=AS hack
 have hB0:Below w.heap.size w (w.alloc (.cells #[.int .i64 0,.int .i64 0,.int .i64 0] 55)):=below_alloc (Below.refl _ _) _
 have HB:=AS (blk_alloc h.1 (.cells #[.int .i64 0,.int .i64 0,.int .i64 0] 55))
 have his:=arb_is a hlen k n
 cases hi:a.is k n
 case false =>
  rw[hi] at his
  have hak:=HAK.out.trans (if_pos (by rw[hi];rfl))
  rw[hak]
  clear hack hi h hlen hB0 HAK hak
  go_enter Tryz.func128,Tryz.ntmps128
  go_wp2_with fail
  refine(arbIs_any HB.out k n).mono ?_
  rintro e w1 ⟨rfl,rfl⟩
  rw[his]
  go_wp2
  exact bodyPost_ret (v:=actO none) (by simp[results,Tryz.results128,go_sem,actO,actV,act0]) rfl ⟨rfl,(AB.out).keep (KS.below (fun _=>False) (by repeat (first | with_reducible exact Below.refl _ _ | with_reducible apply below_alloc | with_reducible refine Below.setCell ?_ (by dsimp only;omega) _))) (fun x _ h=>⟨.inl h,id⟩),KS.below _ (by repeat (first | with_reducible exact Below.refl _ _ | with_reducible apply below_alloc | with_reducible refine Below.setCell ?_ (by dsimp only;omega) _))⟩
 case true =>
  rw[hi] at his
  have hak:=HAK.out.trans (if_neg (by rw[hi];simp))
  obtain⟨i,rfl,hil,m,rfl,hm⟩:∃ i:Nat,k=i/\i < rs.length/\∃ m:Nat,n=m/\(m:Int) < a.nodes:=by
   unfold Arb.is at hi
   simp at hi
   exact⟨k.toNat,by omega,by omega,n.toNat,by omega,by omega⟩
  have hHW:ArbB a b g cap rs (fun x=>F x/\x < w.heap.size) (w.alloc (.cells #[.int .i64 0,.int .i64 0,.int .i64 0] 55)):=h.keep (KS.below (fun _=>False) hB0) (fun x hl hx=>⟨⟨hx,hl⟩,id⟩)
  have HHW:=AS hHW
  have hbl:=h.lt
  have hgl:=h.ltg
  have hN0:0≤a.nodes:=h.2.2.2.2.2.2.1
  have hN1:a.nodes≤64:=h.2.2.2.2.2.2.2.1
  have hm64:m < 64:=by omega
  obtain⟨N_,hN_⟩:∃ N_:Nat,a.nodes=N_:=⟨a.nodes.toNat,by omega⟩
  have hcap:cap≤9223372036854775807:=by obtain⟨A,c,e,-,-,hm,-⟩:=h.2.1.row;simp at e;omega
  have hrow:=h.row hil
  have hmem:rs.getD i arowE.d∈rs:=by simp[List.getD,hil]
  have hqu:=hHW.2.2.2.2.2.2.2.2.2 _ hmem
  have HRW:=AS (show a.row i=(rs.getD i arowE.d).r by unfold Arb.row;rw[show(i:Int).toNat=i by omega,hrow])
  generalize hx:rs.getD i arowE.d=x at *
  obtain⟨⟨sq,⟨ab,an,aq⟩,on,en,kn,qu⟩,q,hh,hk⟩:=x
  have HQU:=AS hqu
  rw[HRW.out,show(m:Int).toNat=m by omega] at hak
  simp only at hak
  have HAK2:=AS hak
  have XR:=AS (blk_new w (.cells #[.int .i64 0,.int .i64 0,.int .i64 0] 55))
  have BW:=AS hB0
  have hi0:i < a.rows.length:=by omega
  have OW:=AS (hHW.2.1.cell0 hil hx)
  have r0:(0:Int)≤(i:Int):=by omega
  have r1:(i:Int) < (rs.length:Int):=by omega
  have r2:(0:Int)≤(m:Int):=by omega
  have r3:(m:Int) < 64:=by omega
  have cs:=own_cells OW.out hil
  have C0:=cw HB.out 0 (v:=.int .i64 a.nodes)
  have C1:=cw HB.out 1 (v:=.slice (some ⟨g,0,none⟩) rs.length cap)
  have e3:(w.alloc (.cells #[.int .i64 0,.int .i64 0,.int .i64 0] 55)).cell? ⟨g,i * 71+3,none⟩=some (.int .i64 aq):=cs 3 (by decide)
  have e5:(w.alloc (.cells #[.int .i64 0,.int .i64 0,.int .i64 0] 55)).cell? ⟨g,i * 71+5,none⟩=some (.bool en):=cs 5 (by decide)
  have e6:(w.alloc (.cells #[.int .i64 0,.int .i64 0,.int .i64 0] 55)).cell? ⟨g,i * 71+(6+m),none⟩=some (.bool (kn.getD m false)):=(cs (6+m) (by show _ < 71;omega)).trans (by
   have hk':kn.length=64:=hk
   show(arowC _)[6+m]?=_
   unfold arowC
   rw[List.getElem?_append_left (by simp[hk'];omega),List.getElem?_append_right (by simp)]
   simp[List.getD_eq_getElem?_getD,hk',hm64])
  rw[<- Nat.add_assoc] at e6
  have FZ:∀ j,(w.alloc (.cells #[.int .i64 0,.int .i64 0,.int .i64 0] 55)).frozen? ⟨g,j,none⟩=false:=fun j=>own_frz OW.out j
  have hsz:(w.alloc (.cells #[.int .i64 0,.int .i64 0,.int .i64 0] 55)).heap.size=w.heap.size+1:=by simp
  have hbg:b≠g:=h.2.2.2.1
  clear h hHW hack hi hlen hrow hmem hx cs hak HAK hqu
  go_enter Tryz.func128,Tryz.ntmps128
  go_wp2_with fail
  refine(arbIs_any HB.out i m).mono ?_
  rintro e w1 ⟨rfl,rfl⟩
  rw[his]
  generalize (w.alloc (.cells #[.int .i64 0,.int .i64 0,.int .i64 0] 55))=W at HB HHW HQU XR BW OW C0 C1 e3 e5 e6 FZ hsz ⊢
  have z0:=cw XR.out 0 (v:=.int .i64 0)
  have z1:=cw XR.out 1 (v:=.int .i64 0)
  have z2:=cw XR.out 2 (v:=.int .i64 0)
  have zz0:=blk_frozen XR.out 0
  have zz1:=blk_frozen XR.out 1
  have zz2:=blk_frozen XR.out 2
  have NO:=AS (show ∀ W',W'=((W.setCell ⟨w.heap.size,0,none⟩ (.int .i64 0)).setCell ⟨w.heap.size,1,none⟩ (.int .i64 0)).setCell ⟨w.heap.size,2,none⟩ (.int .i64 0)->ArbX a b (gr F w) W'/\KS F w W' from by
   rintro W' rfl
   have hb:Below w.heap.size w (((W.setCell ⟨w.heap.size,0,none⟩ (.int .i64 0)).setCell ⟨w.heap.size,1,none⟩ (.int .i64 0)).setCell ⟨w.heap.size,2,none⟩ (.int .i64 0)):=((BW.out.setCell (p:=⟨_,_,none⟩) (Nat.le_refl _) _).setCell (p:=⟨_,_,none⟩) (Nat.le_refl _) _).setCell (p:=⟨_,_,none⟩) (Nat.le_refl _) _
   exact⟨AB.out.keep (KS.below (fun _=>False) hb) (fun x _ h=>⟨.inl h,id⟩),KS.below _ hb⟩)
  by_cases hg:en=true/\aq=s
  case neg =>
   have hr:=HAK2.out.trans (if_pos (by cases en <;> simp_all))
   cases en
   ·go_wp2
    exact bodyPost_ret (v:=actO none) (by simp[results,Tryz.results128,go_sem,actO,actV,act0,z0,z1,z2]) rfl (by rw[hr];exact⟨rfl,NO.out _ rfl⟩)
   ·have hs:aq≠s:=fun e=>hg ⟨rfl,e⟩
    have hsb:(aq != s)=true:=by simpa using hs
    go_wp2
    exact bodyPost_ret (v:=actO none) (by simp[results,Tryz.results128,go_sem,actO,actV,act0,z0,z1,z2]) rfl (by rw[hr];exact⟨rfl,NO.out _ rfl⟩)
  case pos =>
   obtain⟨rfl,rfl⟩:=hg
   have hr:=HAK2.out.trans (if_neg (by simp))
   have HAK3:=AS hr
   have hsb:(aq != aq)=false:=by simp
   clear hr HAK2 NO
   have hk1:(kn.set m true).length=64:=by rw[List.length_set];exact hk
   have O1:=AS (OW.out.cell2 hil (6+m) (by show _ < 71;omega) ⟨⟨sq,⟨ab,an,aq⟩,on,true,kn.set m true,qu⟩,q,hh,hk1⟩ (.bool true) (set_kn ⟨⟨sq,⟨ab,an,aq⟩,on,true,kn,qu⟩,q,hh,hk⟩ m true hm64 hk1))
   rw[show i * arowE.k+(6+m)=i * 71+6+m from(Nat.add_assoc _ _ _).symm] at O1
   have hk2:KS (fun x=>x=g) W (W.setCell ⟨g,i * 71+6+m,none⟩ (.bool true)):=KS.set (F:=fun x=>x=g) (KS.refl _ W) (.inl rfl) _ _
   have K2:=AS hk2
   have hs1:(W.setCell ⟨g,i * 71+6+m,none⟩ (.bool true)).heap.size=w.heap.size+1:=by simp[hsz]
   generalize hkn:kn.set m true=kn1 at *
   go_upto_region 8 with fail
   have A2:=AS (show((W.setCell ⟨g,i * 71+6+m,none⟩ (.bool true)).alloc (bc213 zK)).heap[w.heap.size+1]?=some (bc213 (frst 0)) from by rw[frst_zero,<- hs1];exact blk_new _ _)
   have K21:=AS (K2.out.andBelow (below_alloc (Below.refl _ _) (bc213 zK)))
   have O2:=AS (O1.out.ks (KS.below (fun _=>False) (below_alloc (Below.refl _ _) (bc213 zK))) (fun _ _=>id))
   have hs2:((W.setCell ⟨g,i * 71+6+m,none⟩ (.bool true)).alloc (bc213 zK)).heap.size=w.heap.size+2:=by simp[hsz]
   obtain⟨W2,hW2⟩:∃ W2,W2=(W.setCell ⟨g,i * 71+6+m,none⟩ (.bool true)).alloc (bc213 zK):=⟨_,rfl⟩
   rw[<- hW2] at A2 K21 O2 hs2
   rw[show(W.setCell ⟨g,i * 71+6+m,none⟩ (.bool true)).alloc (.cells #[.bool false,.bool false,.bool false,.bool false,.bool false,.bool false,.bool false,.bool false,.bool false,.bool false,.bool false,.bool false,.bool false,.bool false,.bool false,.bool false,.bool false,.bool false,.bool false,.bool false,.bool false,.bool false,.bool false,.bool false,.bool false,.bool false,.bool false,.bool false,.bool false,.bool false,.bool false,.bool false,.bool false,.bool false,.bool false,.bool false,.bool false,.bool false,.bool false,.bool false,.bool false,.bool false,.bool false,.bool false,.bool false,.bool false,.bool false,.bool false,.bool false,.bool false,.bool false,.bool false,.bool false,.bool false,.bool false,.bool false,.bool false,.bool false,.bool false,.bool false,.bool false,.bool false,.bool false,.bool false] 213)=W2 from hW2.symm]
   have XR2:=AS (K21.out.at_ XR.out (by show ¬ _=g;omega))
   have HB2:=AS (K21.out.at_ HB.out (by show ¬ b=g;exact hbg))
   have c0':W2.cell? ⟨b,0,none⟩=some (.int .i64 (N_:Int)):=(blk_cell HB2.out 0).trans (by rw[hN_];rfl)
   clear hW2 hk2 hs1 K2 O1 e6 e5 e3 FZ z0 z1 z2 zz0 zz1 zz2 C0 C1 HB
   go_wp2_with fail
   go_loopw [12,49] (fun v12 v49 wr=>∃ (j:Nat),v49=.int .i64 j/\j≤N_/\Aside0 (wr.heap[w.heap.size+1]?=some (bc213 (frst j))/\KS (fun x=>x=w.heap.size+1) W2 wr)) (fun _ v49 _=>65 - (intOf v49).toNat)
   case atStart=>exact⟨0,rfl,by omega,⟨A2.out,KS.refl _ _⟩⟩
   case round =>
    obtain⟨j,rfl,hj,R⟩:=hrel
    by_cases c1:j < N_
    ·have hj64:j < 64:=by omega
     have q2:(j:Int) < (N_:Int):=by omega
     have q0:(0:Int)≤(j:Int):=by omega
     have q1:(j:Int) < 64:=by omega
     have a0_:=bc_cell R.out.1 (j:=j) (by rw[frst_len];exact hj64)
     have az_:wr.frozen? ⟨w.heap.size+1,j,none⟩=false:=blk_frozen R.out.1 j
     go_wp2
     go_roundw
     case rel =>
      refine⟨j+1,by go_num,by omega,⟨?_,KS.set (F:=fun x=>x=w.heap.size+1) R.out.2 (.inl rfl) _ _⟩⟩
      have h3:=bc_set R.out.1 j true
      rw[frst_set j hj64] at h3
      exact h3
     case measure=>simp[intOf];omega
    ·have hjn:j=N_:=by omega
     subst hjn
     have O3:=AS (O2.out.ks R.out.2 (fun x hx e=>by simp[foot_slice] at hx;have e':x=w.heap.size+1:=e;omega))
     have R2:=AS (show wr.drew.rangeAt (w.heap.size+1) 0 ((frst j).map fun b=>Value.bool b) from bc_range (blk_drew R.out.1))
     have cs3:=own_cells O3.out hil
     have R1:=AS (show wr.drew.rangeAt g (i * 71+6) (kn1.map fun b=>Value.bool b) from fun q v hv=>by
      have hq:q < 64:=by have:=(List.getElem?_eq_some_iff.1 hv).1;rw[List.length_map,hk1] at this;exact this
      have h6:=cs3 (6+q) (by show _ < 71;omega)
      rw[show i * arowE.k+(6+q)=i * 71+6+q from(Nat.add_assoc _ _ _).symm] at h6
      refine Eq.trans (show wr.drew.cell? ⟨g,i * 71+6+q,none⟩=wr.cell? ⟨g,i * 71+6+q,none⟩ from rfl) (h6.trans ?_)
      show(arowC _)[6+q]?=_
      unfold arowC
      rw[List.getElem?_append_left (by simp[hk1];omega),List.getElem?_append_right (by simp)]
      simpa using hv)
     have e5:wr.cell? ⟨g,i * 71+5,none⟩=some (.bool true):=cs3 5 (by decide)
     have FZ:wr.frozen? ⟨g,i * 71+5,none⟩=false:=own_frz O3.out _
     have XR3:=AS (R.out.2.at_ XR2.out (by show ¬ _=_;omega))
     have K3:=AS (show KS (fun x=>x=g) W wr from K21.out.trans R.out.2 (fun x hx e=>by have e':x=w.heap.size+1:=e;omega))
     clear cs3
     go_upto_region 13 with fail
     go_cut [60] (fun v60 wx=>v60=.bool (!(kn1 == frst j))/\wx=wr.drew)
     case first =>
      refine wp_region_any (by kernel_rfl) ?_
      (try (change wpAny _ _ _ _ _ _ _ (World.drew _)))
      refine wpAny_take (i:=0) (v:=?_) rfl (by kernel_rfl) (by kernel_rfl) (by kernel_rfl) (fun _ _ _ h=>h) (Or.inl ⟨by kernel_rfl,?_⟩) ?_
      rotate_left
      ·intro w;go_simp;try (with_reducible rfl)
      rotate_left
      refine wpAny_take (i:=1) (v:=?_) rfl (by kernel_rfl) (by kernel_rfl) (by kernel_rfl) (fun _ _ _ h=>h) (Or.inl ⟨by kernel_rfl,?_⟩) ?_
      rotate_left
      ·intro w;go_simp;try (with_reducible rfl)
      rotate_left
      refine wpAny_take (i:=2) (v:=?_) rfl (by kernel_rfl) (by kernel_rfl) (by kernel_rfl) (fun _ _ _ h=>h) (Or.inl ⟨by kernel_rfl,?_⟩) ?_
      rotate_left
      ·intro w;go_simp;try (with_reducible rfl)
      rotate_left
      refine wpAny_ready (rs:=[3,4]) (by kernel_rfl) (by simp) ?_
      refine AllReady.cons rfl (fun K hK=>?_) (AllReady.cons rfl (fun K hK=>?_) AllReady.nil)
      ·rw[if_pos (by kernel_rfl)]
       refine wp_load213 _ rfl g (i * 71+6) (by kernel_rfl) kn1 hk1 R1.out ?_
       refine hK _ _ ?_
       clear hK K
       go_simp
       refine wpAny_ready (rs:=[4]) (by kernel_rfl) (by simp) ?_
       refine AllReady.cons rfl (fun K hK=>?_) AllReady.nil
       rw[if_pos (by kernel_rfl)]
       refine wp_load213 _ rfl (w.heap.size+1) 0 (by kernel_rfl) (frst j) (frst_len _) R2.out ?_
       refine hK _ _ ?_
       clear hK K
       go_simp
       refine wpAny_ready (rs:=[5]) (by kernel_rfl) (by simp) ?_
       refine AllReady.cons rfl (fun K hK=>?_) AllReady.nil
       rw[if_pos (by kernel_rfl)]
       refine wp_neq213 _ _ _ rfl kn1 (frst j) (by kernel_rfl) (by kernel_rfl) hk1 (frst_len _) ?_
       refine hK _ _ ?_
       clear hK K
       go_simp
       refine wpAny_done (by kernel_rfl) ?_ _
       go_simp
       go_wp2_with fail
       go_meet
       refine⟨?_,rfl⟩
       first
        | rfl
        | (simp[bne];done)
        | trace_state
      ·rw[if_pos (by kernel_rfl)]
       refine wp_load213 _ rfl (w.heap.size+1) 0 (by kernel_rfl) (frst j) (frst_len _) R2.out ?_
       refine hK _ _ ?_
       clear hK K
       go_simp
       refine wpAny_ready (rs:=[3]) (by kernel_rfl) (by simp) ?_
       refine AllReady.cons rfl (fun K hK=>?_) AllReady.nil
       rw[if_pos (by kernel_rfl)]
       refine wp_load213 _ rfl g (i * 71+6) (by kernel_rfl) kn1 hk1 R1.out ?_
       refine hK _ _ ?_
       clear hK K
       go_simp
       refine wpAny_ready (rs:=[5]) (by kernel_rfl) (by simp) ?_
       refine AllReady.cons rfl (fun K hK=>?_) AllReady.nil
       rw[if_pos (by kernel_rfl)]
       refine wp_neq213 _ _ _ rfl kn1 (frst j) (by kernel_rfl) (by kernel_rfl) hk1 (frst_len _) ?_
       refine hK _ _ ?_
       clear hK K
       go_simp
       refine wpAny_done (by kernel_rfl) ?_ _
       go_simp
       go_wp2_with fail
       go_meet
       refine⟨?_,rfl⟩
       first
        | rfl
        | (simp[bne];done)
        | trace_state
     case rest =>
      obtain⟨rfl,rfl⟩:=hcut
      have hz:a.nodes.toNat=j:=by omega
      have hak:=HAK3.out
      rw[all_frst a.nodes hN0,hz] at hak
      have HAK4:=AS hak
      have z0:=cw (blk_drew XR3.out) 0 (v:=.int .i64 0)
      have z1:=cw (blk_drew XR3.out) 1 (v:=.int .i64 0)
      have z2:=cw (blk_drew XR3.out) 2 (v:=.int .i64 0)
      have zz0:=blk_frozen (blk_drew XR3.out) 0
      have zz1:=blk_frozen (blk_drew XR3.out) 1
      have zz2:=blk_frozen (blk_drew XR3.out) 2
      have NB:=AS (show ∀ x,gr (fun x=>F x/\x < w.heap.size) W x->gr F w x/\x≠w.heap.size from fun x hx=>by
       rcases hx with hx | hx
       ·exact⟨.inl hx.1,by have:=hx.2;omega⟩
       ·exact⟨.inr (by omega),by omega⟩)
      have KT:=AS (show ∀ W',KS (fun x=>F x/\x < w.heap.size) W W'->KS F w W' from fun W' hk=>(KS.below F BW.out).trans hk (fun x _ h=>h.1))
      by_cases hkf:kn1=frst j
      case neg =>
       have hr:=HAK4.out.trans (if_pos hkf)
       have hv:(!(kn1 == frst j))=true:=by simpa using hkf
       obtain⟨hX,hk⟩:=HHW.out.setRow (w':=wr.drew) hil ⟨⟨sq,⟨ab,an,aq⟩,on,true,kn1,qu⟩,q,hh,hk1⟩ K3.out.drew O3.out.drew_ (HQU.out.keep K3.out.drew (fun x hx hF=>⟨.inl hF,fun h1 h2=>h2⟩))
       have X1:=AS (And.intro hX hk)
       have hcs:(a.setRow i ⟨sq,⟨ab,an,aq⟩,on,true,kn1,qu⟩)={ a with rows:=a.rows.set i ⟨sq,⟨ab,an,aq⟩,on,true,kn1,qu⟩}:=by unfold Arb.setRow;rw[show(i:Int).toNat=i by omega]
       rw[hv]
       clear hX hk
       generalize wr.drew=w3 at X1 z0 z1 z2 zz0 zz1 zz2 ⊢
       go_wp2
       refine bodyPost_ret (v:=actO none) (by simp[results,Tryz.results128,go_sem,actO,actV,act0,z0,z1,z2]) rfl ?_
       (try rw[hr])
       have hX1:=X1.out.1
       (try rw[hcs])
       (try simp only[hN_] at hX1)
       have hk6:KS (fun x=>x=w.heap.size) w3 (((w3.setCell ⟨w.heap.size,0,none⟩ (.int .i64 0)).setCell ⟨w.heap.size,1,none⟩ (.int .i64 0)).setCell ⟨w.heap.size,2,none⟩ (.int .i64 0)):=KS.set (F:=fun x=>x=w.heap.size) (KS.set (F:=fun x=>x=w.heap.size) (KS.set (F:=fun x=>x=w.heap.size) (KS.refl _ _) (.inl rfl) _ _) (.inl rfl) _ _) (.inl rfl) _ _
       exact⟨rfl,hX1.keep hk6 (fun x _ hx=>⟨(NB.out x hx).1,(NB.out x hx).2⟩),(KT.out _ X1.out.2).trans (hk6.mono (G:=fun x=>x=w.heap.size) (fun _ _ h=>h)) (fun x hx e=>by have e':x=w.heap.size:=e;omega)⟩
      case pos =>
       have hr:=HAK4.out.trans (if_neg (by simpa using hkf))
       have hv:(!(kn1 == frst j))=false:=by simpa using hkf
       have K5:KS (fun x=>x=g) W ((wr.setCell ⟨g,i * 71+5,none⟩ (.bool false)).drew):=(KS.set (F:=fun x=>x=g) K3.out (.inl rfl) _ _).drew
       have O5:=(O3.out.cell2 hil 5 (by decide) ⟨⟨sq,⟨ab,an,aq⟩,on,false,kn1,qu⟩,q,hh,hk1⟩ (.bool false) (set_en ⟨⟨sq,⟨ab,an,aq⟩,on,true,kn1,qu⟩,q,hh,hk1⟩ false)).drew_
       obtain⟨hX,hk⟩:=HHW.out.setRow hil ⟨⟨sq,⟨ab,an,aq⟩,on,false,kn1,qu⟩,q,hh,hk1⟩ K5 O5 (HQU.out.keep K5 (fun x hx hF=>⟨.inl hF,fun h1 h2=>h2⟩))
       have hcs:(a.setRow i ⟨sq,⟨ab,an,aq⟩,on,false,kn1,qu⟩)={ a with rows:=a.rows.set i ⟨sq,⟨ab,an,aq⟩,on,false,kn1,qu⟩}:=by unfold Arb.setRow;rw[show(i:Int).toNat=i by omega]
       have X5:=AS hX
       have H5:=AS hk
       have XR5:=AS (hk.at_ XR.out (by intro hx;have:=hx.2;omega))
       have HN:=AS (arbNext_any hX (i:=i) (by simpa using hi0))
       rw[<- hcs] at HN
       have e5d:wr.drew.cell? ⟨g,i * 71+5,none⟩=some (.bool true):=e5
       have fzd:wr.drew.frozen? ⟨g,i * 71+5,none⟩=false:=FZ
       clear hX hk K5 O5 hcs z0 z1 z2 zz0 zz1 zz2 e5 FZ
       rw[hv]
       generalize (a.setRow i ⟨sq,⟨ab,an,aq⟩,on,false,kn1,qu⟩).next i=nx at *
       obtain⟨nx1,nx2⟩:=nx
       have HAV:=AS (show actO nx2=.tuple #[.agg #[.int .i64 (nx2.getD act0).block,.int .i64 (nx2.getD act0).node,.int .i64 (nx2.getD act0).seq],.bool nx2.isSome] from rfl)
       go_wp2_with fail
       generalize (wr.setCell ⟨g,i * 71+5,none⟩ (.bool false)).drew=w4 at X5 H5 XR5 HN ⊢
       refine HN.out.mono ?_
       rintro e w5 ⟨rfl,hX5,hk5⟩
       simp only
       rw[HAV.out]
       generalize (nx2.getD act0).block=m1 at *
       generalize (nx2.getD act0).node=m2 at *
       generalize (nx2.getD act0).seq=m3 at *
       generalize nx2.isSome=m4 at *
       have NG:=notGr (P:=(fun x=>F x/\x < w.heap.size)) (W:=W) (notP0 (Nat.le_refl w.heap.size)) (blk_lt XR.out)
       have X6:=AS hX5
       have XR6:=AS (hk5.at_ XR5.out NG)
       have NB6:=AS (notGr (W:=w4) NG (blk_lt XR5.out))
       have CH5:=AS ((((Ch.refl F w).below BW.out).op H5.out).op hk5)
       clear hX5 hk5 HN NG
       have z0:=cw XR6.out 0 (v:=.int .i64 0)
       have z1:=cw XR6.out 1 (v:=.int .i64 0)
       have z2:=cw XR6.out 2 (v:=.int .i64 0)
       have zz0:=blk_frozen XR6.out 0
       have zz1:=blk_frozen XR6.out 1
       have zz2:=blk_frozen XR6.out 2
       go_wp2
       have hk6:=((((KS.refl (fun x=>x=w.heap.size) w5).set (g:=w.heap.size) (.inl rfl) 0 (.int .i64 m1)).set (g:=w.heap.size) (.inl rfl) 1 (.int .i64 m2)).set (g:=w.heap.size) (.inl rfl) 2 (.int .i64 m3))
       have hch:=(((CH5.out.set (Nat.le_refl _) 0 (.int .i64 m1)).set (Nat.le_refl _) 1 (.int .i64 m2)).set (Nat.le_refl _) 2 (.int .i64 m3))
       refine bodyPost_ret (v:=.tuple #[.agg #[.int .i64 m1,.int .i64 m2,.int .i64 m3],.bool m4]) (by simp[results,Tryz.results128,go_sem,z0,z1,z2]) rfl ?_
       rw[hr]
       refine⟨by rw[HAV.out],?_,hch.1⟩
       exact X6.out.keep hk6 (fun x _ hx=>⟨hch.2 x hx,fun e=>NB6.out (e ▸ hx)⟩)
end Go.Proofs.YtiebppkhaiofeaaGreat.K
namespace Go.Proofs.YtiebppkhaiofeaaGreat.K
open Go.RowKit Go.Proofs.YtiebppkhaiofeaaGreatW.PrintWords Go.Proofs.YtiebppkhaiofeaaGreat.S
attribute [local go_sem] World.cell?_alloc_some
open Go.MapKept
section
variable {bs:List Bun} {b:Nat} {F F' G:Set_} {w w':Go.World}
theorem MemAt.keep (h:MemAt bs b F w) (hk:KS G w w') (hs:∀ x,x < w.heap.size->F x->F' x/\¬ G x):MemAt bs b F' w':=by
 obtain⟨v,h1,h2,h3,h4,h5,h6⟩:=h
 exact⟨v,hk.at_ h1 (hs b (blk_lt h1) h4).2,h2.ks hk (fun x hx=>(hs x (h2.lt x hx) (h5 x hx)).2),h3,(hs b (blk_lt h1) h4).1,fun x hx=>(hs x (h2.lt x hx) (h5 x hx)).1,h6⟩
theorem MemAt.lt (h:MemAt bs b F w):b < w.heap.size:=by obtain⟨v,h1,_⟩:=h;exact blk_lt h1
theorem MemAt.mem (h:MemAt bs b F w):F b:=by obtain⟨v,h1,h2,h3,h4,_⟩:=h;exact h4
end
def memHas (bs:List Bun) (k:Int):Bool:=decide (0≤k/\k < bs.length)
def memGet (bs:List Bun) (k:Int):Bun:=if memHas bs k then bs.getD k.toNat b0 else b0
def memSet (bs:List Bun) (k:Int) (y:Bun):List Bun:=if memHas bs k then bs.set k.toNat y else bs
theorem memHas_nat {bs:List Bun} {i:Int} (h:memHas bs i=true):∃ n:Nat,i=n/\n < bs.length:=by
 simp[memHas] at h
 exact⟨i.toNat,by omega,by omega⟩
def MemP (v:Value) (bs:List Bun) (b:Nat) (F:Set_) (w:Go.World) (e:Ending) (w':Go.World):Prop:=e=.returned v/\MemAt bs b (gr F w) w'/\KS F w w'
theorem memIs_blk {b n c:Nat} {A:Option Addr} {w:Go.World} (hB:w.heap[b]?=some (.cells #[.slice A n c] 168 (0,0))) (k:Int):Calls Tryz.prog 145 #[.pointer (some ⟨b,0,none⟩),.int .i64 k] w (RQ (.bool (decide (0≤k/\k < n))) w):=by
 have c0:=cw hB 0 (v:=.slice A n c)
 clear hB
 by_cases h0:0≤k
 ·by_cases h1:k < n
  all_goals
   go_enter Tryz.func145,Tryz.ntmps145
   go_wp2
   go_ret
   exact RQ.of (by simp[h0,h1])
 ·go_enter Tryz.func145,Tryz.ntmps145
  go_wp2
  go_ret
  exact RQ.of (by simp[h0];omega)
theorem memGet_no {bs:List Bun} {b:Nat} {F:Set_} {w:Go.World} (hM:MemAt bs b F w) {k:Int} (hk:memHas bs k=false):Calls Tryz.prog 122 #[.pointer (some ⟨b,0,none⟩),.int .i64 k] w (RV (bunV b0) w):=by
 obtain⟨v,hB,hO,hv,hb,hf,h6⟩:=hM
 obtain⟨A,c,rfl,hr,hc,hm,hn⟩:=hO.row
 have B1:=AS (blk_alloc hB (.cells #[.int .i64 0,.bool false,.bool false,.int .i64 0] 45))
 have hk':decide (0≤k/\k < (bs.length:Int))=false:=hk
 clear hr hO hB hf hv hn hk
 go_enter Tryz.func122,Tryz.ntmps122
 go_wp2_with fail
 refine(memIs_blk B1.out k).mono ?_
 rintro e w1 ⟨rfl,rfl⟩
 rw[hk']
 go_wp2
 exact bodyPost_ret (v:=bunV b0) (by simp[results,Tryz.results122,go_sem,bunV,b0]) rfl ⟨rfl,by repeat (first | with_reducible exact Below.refl _ _ | with_reducible apply below_alloc | with_reducible refine Below.setCell ?_ (by dsimp only;omega) _)⟩
theorem memGet_yes {bs:List Bun} {b i:Nat} {F:Set_} {w:Go.World} (hM:MemAt bs b F w) (hi:i < bs.length):Calls Tryz.prog 122 #[.pointer (some ⟨b,0,none⟩),.int .i64 i] w (RV (bunV (bs.getD i b0)) w):=by
 obtain⟨v,hB,hO,hv,hb,hf,h6⟩:=hM
 obtain⟨g',cap,rfl,hc63,hcap,hlt',-⟩:=own_some hO hi
 have hC:=bun_cells hO hi
 obtain⟨⟨e0,e1,e2,e3⟩,ez⟩:=hC
 generalize hy:bs.getD i b0=y at *
 obtain⟨y0,y1,y2,y3⟩:=y
 simp only at e0 e1 e2 e3
 have c0:=cw hB 0 (v:=.slice (some ⟨g',0,none⟩) bs.length cap)
 have B1:=AS (blk_alloc hB (.cells #[.int .i64 0,.bool false,.bool false,.int .i64 0] 45))
 have hk':decide (0≤(i:Int)/\(i:Int) < (bs.length:Int))=true:=by simp[hi]
 have q0:(0:Int)≤(i:Int):=by omega
 have q1:(i:Int) < (bs.length:Int):=by omega
 clear hO hB hf hv ez
 go_enter Tryz.func122,Tryz.ntmps122
 go_wp2_with fail
 refine(memIs_blk B1.out i).mono ?_
 rintro e w1 ⟨rfl,rfl⟩
 rw[hk']
 go_wp2
 exact bodyPost_ret (v:=bunV ⟨y0,y1,y2,y3⟩) (by simp[results,Tryz.results122,go_sem,bunV]) rfl ⟨rfl,by repeat (first | with_reducible exact Below.refl _ _ | with_reducible apply below_alloc | with_reducible refine Below.setCell ?_ (by dsimp only;omega) _)⟩
theorem memGet_any {bs:List Bun} {b:Nat} {F:Set_} {w:Go.World} (hM:MemAt bs b F w) (k:Int):Calls Tryz.prog 122 #[.pointer (some ⟨b,0,none⟩),.int .i64 k] w (RV (bunV (memGet bs k)) w):=by
 cases h:memHas bs k with
 | false=>rw[show memGet bs k=b0 by simp[memGet,h]];exact memGet_no hM h
 | true =>
  obtain⟨n,rfl,hn⟩:=memHas_nat h
  rw[show memGet bs n=bs.getD n b0 by simp[memGet,h]]
  exact memGet_yes hM hn
theorem memAll_any {bs:List Bun} {b:Nat} {F:Set_} {w:Go.World} (hM:MemAt bs b F w):Calls Tryz.prog 65 #[.pointer (some ⟨b,0,none⟩)] w (NewRow bunE bs w):=by
 obtain⟨v,hB,hO,hv,hb,hf,h6⟩:=hM
 obtain⟨A,c,rfl,hr,hc,hm,hn⟩:=hO.row
 have c0:=cw hB 0 (v:=.slice A bs.length c)
 have hmk:=run_makeE (E:=bunE) bs.length (by show _ * 24≤_;omega) w
 have hcp:=run_copyE (E:=bunE) (W:=w.alloc (.cells (flat bunE (List.replicate bs.length bunE.d)).toArray bunE.T)) (g:=w.heap.size) (n:=bs.length) (A:=A) (ys:=bs) (c:=c) (m:=bs.length) 3 (heap_alloc w _).1 (by simp[flat_len]) (RowE.below hr (below_alloc (Below.refl _ _) _)) rfl rfl hn
 have OC:=AS (ownE_copied (E:=bunE) (ys:=bs) (heap_alloc w (.cells (flat bunE (List.replicate bs.length bunE.d)).toArray bunE.T)).1 rfl (by omega))
 have KB:=AS (show Below w.heap.size w ((w.alloc (.cells (flat bunE (List.replicate bs.length bunE.d)).toArray bunE.T)).setRow w.heap.size (flat bunE bs).toArray) from(below_alloc (Below.refl _ _) _).trans ⟨rfl,rfl,rfl,by simp[World.setRow],fun k hk=>setRow_other _ _ k _ (by omega)⟩)
 clear hr hO hB hf hv hn
 simp only[show bunE.S=38 from rfl] at hmk hcp
 generalize (Obj.cells (flat bunE (List.replicate bs.length bunE.d)).toArray bunE.T)=ob at *
 generalize (flat bunE bs).toArray=fl at *
 go_enter Tryz.func65,Tryz.ntmps65
 go_wp2
 go_ret
 exact⟨_,rfl,OC.out,by intro x hx;simp[foot_slice] at hx;omega,KB.out⟩
theorem memCopy_any {bs:List Bun} {b:Nat} {F:Set_} {w:Go.World} (hM:MemAt bs b F w):Calls Tryz.prog 76 #[.pointer (some ⟨b,0,none⟩)] w fun e w'=>∃ b',e=.returned (.pointer (some ⟨b',0,none⟩))/\MemAt bs b' (nw w) w'/\Below w.heap.size w w':=by
 have HL:=AS (memAll_any hM)
 have h6:bs.length≤64:=by obtain⟨v,hB,hO,hv,hb,hf,h6⟩:=hM;exact h6
 clear hM
 go_enter Tryz.func76,Tryz.ntmps76
 go_wp2_with fail
 refine HL.out.mono ?_
 rintro e w1 ⟨u,rfl,hO,hf,hb⟩
 have O1:=AS hO
 have FF:=AS hf
 have BB:=AS hb
 obtain⟨A1,n1,k1,rfl⟩:∃ A n c,u=.slice A n c:=by obtain⟨A,c,h,_⟩:=OwnE.row hO;exact⟨_,_,_,h⟩
 clear hO hf hb
 go_wp2
 go_ret
 refine⟨_,rfl,⟨_,blk_new w1 _,O1.out.ks (KS.below (fun _=>False) (below_alloc (Below.refl _ _) _)) (fun _ _=>id),?_,BB.out.size,FF.out,h6⟩,below_alloc BB.out _⟩
 intro hx
 have:=O1.out.lt _ hx
 omega
theorem memStored {bs':List Bun} {v:Value} {b:Nat} {F:Set_} {w w1:Go.World} (hB:w1.heap[b]?=some (.cells #[v] 168 (0,0))) (hO:OwnE bunE v bs' w1) (hb:F b) (hf:∀ x∈foot v,F x) (hv:b∉foot v) (hl:bs'.length≤64) (hk:KS F w w1):MemAt bs' b F w1/\KS F w w1:=⟨⟨v,hB,hO,hv,hb,hf,hl⟩,hk⟩
theorem MemAt.sub {bs:List Bun} {b:Nat} {F F':Set_} {w:Go.World} (h:MemAt bs b F w) (hs:∀ x,F x->F' x):MemAt bs b F' w:=by
 obtain⟨v,h1,h2,h3,h4,h5,h6⟩:=h
 exact⟨v,h1,h2,h3,hs b h4,fun x hx=>hs x (h5 x hx),h6⟩
theorem memWrite {bs:List Bun} {b g' cap i:Nat} {F:Set_} {w w1:Go.World} (hB:w1.heap[b]?=some (.cells #[.slice (some ⟨g',0,none⟩) bs.length cap] 168 (0,0))) (hO:OwnE bunE (.slice (some ⟨g',0,none⟩) bs.length cap) bs w1) (hi:i < bs.length) (y:Bun) (hb:F b) (hg:F g') (hv:b≠g') (hl:bs.length≤64) (hk:KS F w w1) :
  MemAt (bs.set i y) b F (((((w1).setCell ⟨g',i * 4,none⟩ (.int .i64 y.count)).setCell ⟨g',i * 4+1,none⟩ (.bool y.owner)).setCell ⟨g',i * 4+2,none⟩ (.bool y.has)).setCell ⟨g',i * 4+3,none⟩ (.int .i64 y.data))/\KS F w (((((w1).setCell ⟨g',i * 4,none⟩ (.int .i64 y.count)).setCell ⟨g',i * 4+1,none⟩ (.bool y.owner)).setCell ⟨g',i * 4+2,none⟩ (.bool y.has)).setCell ⟨g',i * 4+3,none⟩ (.int .i64 y.data)):=by
 have h1:=bun_set hO hi y
 refine memStored (v:=.slice (some ⟨g',0,none⟩) bs.length cap) ?_ h1 hb (by intro x hx;simp[foot_slice] at hx;subst hx;exact hg) (by simpa [foot_slice] using hv) (by simpa using hl) ?_
 ·exact blk_far (blk_far (blk_far (blk_far hB (p:=⟨g',_,none⟩) hv _) (p:=⟨g',_,none⟩) hv _) (p:=⟨g',_,none⟩) hv _) (p:=⟨g',_,none⟩) hv _
 ·exact(((hk.set (.inl hg) _ _).set (.inl hg) _ _).set (.inl hg) _ _).set (.inl hg) _ _
theorem memPut_no {bs:List Bun} {b:Nat} {F:Set_} {w:Go.World} (hM:MemAt bs b F w) {k:Int} (hk:memHas bs k=false) (c:Int) (o h:Bool) (d:Int):Calls Tryz.prog 120 #[.pointer (some ⟨b,0,none⟩),.int .i64 k,.agg #[.int .i64 c,.bool o,.bool h,.int .i64 d]] w (MemP (.bool false) bs b F w):=by
 have M:=AS hM
 obtain⟨v,hB,hO,hv,hb,hf,h6⟩:=hM
 obtain⟨A,cp,rfl,hr,hc,hm,hn⟩:=hO.row
 have B1:=AS (blk_alloc hB (.cells #[.int .i64 c,.bool o,.bool h,.int .i64 d] 45))
 have hk':decide (0≤k/\k < (bs.length:Int))=false:=hk
 clear hr hO hB hf hv hn hk
 go_enter Tryz.func120,Tryz.ntmps120
 go_wp2_with fail
 refine(memIs_blk B1.out k).mono ?_
 rintro e w1 ⟨rfl,rfl⟩
 rw[hk']
 go_wp2
 go_ret
 exact⟨rfl,M.out.keep (KS.below (fun _=>False) (below_alloc (Below.refl _ _) _)) (fun x _ h=>⟨.inl h,id⟩),KS.below _ (below_alloc (Below.refl _ _) _)⟩
theorem memPut_yes {bs:List Bun} {b i:Nat} {F:Set_} {w:Go.World} (hM:MemAt bs b F w) (hi:i < bs.length) (c:Int) (o h:Bool) (d:Int):Calls Tryz.prog 120 #[.pointer (some ⟨b,0,none⟩),.int .i64 i,.agg #[.int .i64 c,.bool o,.bool h,.int .i64 d]] w (MemP (.bool true) (bs.set i (join (bs.getD i b0) ⟨c,o,h,d⟩)) b F w):=by
 obtain⟨v,hB,hO,hv,hb,hf,h6⟩:=hM
 obtain⟨g',cap,rfl,hc63,hcap,hlt',-⟩:=own_some hO hi
 have hC:=bun_cells hO hi
 obtain⟨⟨e0,e1,e2,e3⟩,ez⟩:=hC
 generalize hy:bs.getD i b0=y at *
 obtain⟨y0,y1,y2,y3⟩:=y
 simp only at e0 e1 e2 e3
 have hne:b≠g':=fun e=>hv (by simp[foot_slice,e])
 have HF:=AS (And.intro hb (hf g' (by simp[foot_slice])))
 have c0:=cw hB 0 (v:=.slice (some ⟨g',0,none⟩) bs.length cap)
 have B1:=AS (blk_alloc hB (.cells #[.int .i64 c,.bool o,.bool h,.int .i64 d] 45))
 have HW:=AS (show ∀ w1,Below w.heap.size w w1->w1.heap[b]?=some (.cells #[.slice (some ⟨g',0,none⟩) bs.length cap] 168 (0,0))/\OwnE bunE (.slice (some ⟨g',0,none⟩) bs.length cap) bs w1 from fun w1 hb=>⟨blk_below hB hb,hO.ks (KS.below (fun _=>False) hb) (fun _ _=>id)⟩)
 have hk':decide (0≤(i:Int)/\(i:Int) < (bs.length:Int))=true:=by simp[hi]
 have q0:(0:Int)≤(i:Int):=by omega
 have q1:(i:Int) < (bs.length:Int):=by omega
 have HN:=AS hne
 generalize hj:join ⟨y0,y1,y2,y3⟩ ⟨c,o,h,d⟩=jn
 have HJ:=AS hj
 obtain⟨j0,j1,j2,j3⟩:=jn
 clear hO hB hf hv hb hne hj
 go_enter Tryz.func120,Tryz.ntmps120
 go_wp2_with fail
 refine(memIs_blk B1.out i).mono ?_
 rintro e w1 ⟨rfl,rfl⟩
 rw[hk']
 go_wp2_with fail
 go_region_with (go_at_call 146;refine(join_any _ _ _ _ _ _ _ _ _).mono ?_;rintro e w1 ⟨rfl,hbl⟩;rw[HJ.out];have BB:=AS (show Below w.heap.size w w1 from(Below.drew (below_alloc (Below.refl _ _) _)).trans (hbl.mono (by simp[World.drew])));clear hbl;have W1:=AS (HW.out w1 BB.out);have C1:=AS (bun_cells W1.out.2 hi);have c0':w1.cell? ⟨b,0,none⟩=some (.slice (some ⟨g',0,none⟩) bs.length cap):=cw W1.out.1 0;have f0:=C1.out.1.1;have f1:=C1.out.1.2.1;have f2:=C1.out.1.2.2.1;have f3:=C1.out.1.2.2.2;have fz:=C1.out.2;simp only[bunV])
 all_goals
  go_wp2
  go_ret
  have:=memWrite W1.out.1 W1.out.2 hi ⟨j0,j1,j2,j3⟩ HF.out.1 HF.out.2 HN.out h6 (KS.below F BB.out)
  exact⟨rfl,this.1.sub (fun _ h=>.inl h),this.2⟩
theorem memPut_any {bs:List Bun} {b:Nat} {F:Set_} {w:Go.World} (hM:MemAt bs b F w) (k:Int) (t:Bun):Calls Tryz.prog 120 #[.pointer (some ⟨b,0,none⟩),.int .i64 k,bunV t] w (MemP (.bool (memHas bs k)) (memSet bs k (join (memGet bs k) t)) b F w):=by
 obtain⟨c,o,h,d⟩:=t
 cases h1:memHas bs k with
 | false=>rw[show memSet bs k (join (memGet bs k) ⟨c,o,h,d⟩)=bs by simp[memSet,h1]];exact memPut_no hM h1 c o h d
 | true =>
  obtain⟨n,rfl,hn⟩:=memHas_nat h1
  rw[show memSet bs n (join (memGet bs n) ⟨c,o,h,d⟩)=bs.set n (join (bs.getD n b0) ⟨c,o,h,d⟩) by simp[memSet,memGet,h1]]
  exact memPut_yes hM hn c o h d
end Go.Proofs.YtiebppkhaiofeaaGreat.K
