/- Part of the proof of TopPolicies: what functions of the program do. -/
import Derived.Test.YtiebppkhaiofeaaGreatP10
import Derived.Test.YtiebppkhaiofeaaGreatP00
set_option maxHeartbeats 4000000
set_option maxRecDepth 100000
set_option linter.unusedVariables false
set_option linter.unusedSimpArgs false
open Go.IntKind renaming i64→I
open Go.Value renaming slice→J, int→V, bool→aA, pointer→bA
open Option renaming some→M, none→U
open Go.Obj renaming cells→O
open Go renaming Calls→bB, World→cA, bodyPost_ret→yA, wpAny_take→zA
open List renaming getD_eq_getElem?_getD→cB, mem_cons_of_mem→kB, mem_singleton→tA, replicate→uA, mem_cons_self→wA
open Go.Proofs.Tryz renaming prog→dA
open Go.Proofs.YtiebppkhaiofeaaGreatW.PrintWords renaming below_alloc→eA, blk_lt→eB, blk_drew→fB, blk_frozen→jA, blk_below→kA, blk_alloc→lA, blk_set→mA, blk_new→nA, blk_cell→oB
open Go.RowKit.Below renaming refl→fA, drew→iA, setCell→oA
open Go.Proofs.YtiebppkhaiofeaaGreat.K renaming rec_old→jB
open Nat renaming le_trans→lB, le_refl→pA
open Go.AllReady renaming cons→mB
open Go.Proofs.YtiebppkhaiofeaaGreat.K.KS renaming below→pB, refl→qB, drew→sB
open And renaming intro→qA
open Bool renaming false_eq_true→vA
namespace Go.Proofs.YtiebppkhaiofeaaGreat.K
open Go.RowKit Go.Proofs.YtiebppkhaiofeaaGreatW.PrintWords Go.Proofs.YtiebppkhaiofeaaGreat.S
attribute [local go_sem] World.cell?_alloc_some
open Go.ChangeMaps Go.MapKept
theorem set_kn (p:ARowR) (m:Nat) (u:Bool) (hm:m < 64) (hk1:(p.r.knows.set m u).length=64):arowC ⟨{ p.r with knows:=p.r.knows.set m u },p.q,p.h,hk1⟩=(arowC p).set (6+m) (aA u):=by
 have hp:=p.hk
 unfold arowC
 simp only
 rw[List.set_append,List.set_append]
 rw[if_pos (by simp[hp];omega),if_neg zB]
 simp[List.map_set]
theorem set_en (p:ARowR) (u:Bool):arowC ⟨{ p.r with ending:=u },p.q,p.h,p.hk⟩=(arowC p).set 5 (aA u):=by
 unfold arowC
 simp
def frst (j:Nat):List Bool:=(List.range 64).map fun(q:Nat)=>decide (q < j)
theorem frst_len (j:Nat):(frst j).length=64:=by simp[frst]
theorem frst_zero:frst 0=zK:=by decide
theorem frst_set (j:Nat) (hj:j < 64):(frst j).set j true=frst (j+1):=by
 refine List.ext_getElem? fun q=>?_
 unfold frst
 rw[List.getElem?_set]
 simp only[List.length_map,List.length_range,List.getElem?_map]
 by_cases e:j=q
 ·subst e
  rw[if_pos rfl,if_pos hj,List.getElem?_range hj]
  simp
 ·rw[if_neg e]
  by_cases hq:q < 64
  ·rw[List.getElem?_range hq]
   simp only[Option.map_some,Option.some.injEq,decide_eq_decide]
   omega
  ·rw[List.getElem?_eq_none (by simp;omega)]
   rfl
theorem all_frst (N:Int) (h0:0≤N):(List.range 64).map (fun(i:Nat)=>decide ((i:Int) < N))=frst N.toNat:=by
 unfold frst
 refine List.map_congr_left fun q _=>?_
 exact decide_eq_decide.2 vB
def bc213 (bs:List Bool):Obj:=O (bs.map fun b=>Value.bool b).toArray 213
theorem bc_set {W:cA} {a:Nat} {bs:List Bool} (h:W.heap[a]?=M (bc213 bs)) (j:Nat) (u:Bool):(W.setCell ⟨a,j,U⟩ (aA u)).heap[a]?=M (bc213 (bs.set j u)):=by
 refine(mA h j (aA u)).trans ?_
 unfold bc213
 congr 2
 apply Array.toList_inj.1
 simp[List.map_set]
theorem bc_cell {W:cA} {a:Nat} {bs:List Bool} (h:W.heap[a]?=M (bc213 bs)) {j:Nat} (hj:j < bs.length):W.cell? ⟨a,j,U⟩=M (aA (bs.getD j false)):=by
 refine(oB h j).trans ?_
 simp[cB,hj]
theorem bc_range {W:cA} {a:Nat} {bs:List Bool} (h:W.heap[a]?=M (bc213 bs)):W.rangeAt a 0 (bs.map fun b=>Value.bool b):=fun j v hv=>by
 rw[Nat.zero_add,oB h j]
 simpa using hv
section
variable {op:Oper} {a:Act} {w:cA} {K:Act->cA->Prop} {Q:Exit->Act->cA->Prop}
theorem wp_load213 (x:Operand) (ho:op.op=.load 213 x) (g o:Nat) (hx:a.eval x=bA (M ⟨g,o,U⟩)) (bs:List Bool) (hl:bs.length=64) (hr:w.rangeAt g o (bs.map fun b=>Value.bool b)) (h:K (a.put op.dst (bsV bs)) w):op.wp dA a w K Q :=
 wp_load_mid (P:=dA) 213 x ho g o hx (bs.map fun b=>Value.bool b) (.array 64 4) hr under213 rfl (by rw[List.length_map,hl];exact size213) h
theorem guard213:Tryz.prog.eqGuardType Tryz.prog.depth 213=false:=by kernel_rfl
theorem wp_neq213 (x y:Operand) (t:TypeId) (ho:op.op=.binOp .neq 213 x y t) (xs ys:List Bool) (hx:a.eval x=bsV xs) (hy:a.eval y=bsV ys) (hl:xs.length=64) (hm:ys.length=64) (h:K (a.put op.dst (aA (!(xs == ys)))) w):op.wp dA a w K Q:=by
 have hg:(eqGuard .neq 213 x y (bsV xs) (bsV ys)).run dA w=.ok () w:=run_eqGuard_agg w .neq 213 x y _ _ guard213
 unfold Oper.wp execOp
 simp only[ho,hx,hy,Sem.run_bind,hg,neq213 w xs ys hl hm,Result.andThen_ok]
 exact h
end
theorem arbAck_any {a:Arb} {b:Nat} {F:Set_} {w:cA} (hA:ArbX a b F w) (k s n:Int):bB dA 128 #[bA (M ⟨b,0,U⟩),V I k,V I s,V I n] w (ArbP (actO (a.ack k s n).2) (a.ack k s n).1 b F w):=by
 have AB:=AS hA
 obtain⟨g,cap,rs,h⟩:=hA
 have hlen:=h.len
 have hack:a.ack k s n=if !a.is k n then (a,U) else if !(a.row k).ending || (a.row k).active.seq != s then (a,U) else if (a.row k).knows.set n.toNat true≠(List.range 64).map (fun(i:Nat)=>decide ((i:Int) < a.nodes)) then (a.setRow k { a.row k with knows:=(a.row k).knows.set n.toNat true },U) else (a.setRow k { a.row k with knows:=(a.row k).knows.set n.toNat true,ending:=false }).next k:=rfl
 have HAK:=AS hack
 have hB0:Below w.heap.size w (w.alloc (O #[V I 0,V I 0,V I 0] 55)):=eA (fA _ _) _
 have HB:=AS (lA h.1 (O #[V I 0,V I 0,V I 0] 55))
 have his:=arb_is a hlen k n
 cases hi:a.is k n
 case false =>
  rw[hi] at his
  have hak:=HAK.out.trans (if_pos (by rw[hi];rfl))
  rw[hak]
  clear hack hi h hlen hB0 HAK hak
  go_enter Tryz.func128,Tryz.ntmps128
  go_wp2_with fail
  refine(arbIs_any HB.out k n).mono ?_
  rintro e w1 ⟨rfl,rfl⟩
  rw[his]
  go_wp2
  exact yA (v:=actO U) (by simp[results,Tryz.results128,go_sem,actO,actV,act0]) rfl ⟨rfl,(AB.out).keep (pB (fun _=>False) (by repeat (first | with_reducible exact fA _ _ | with_reducible apply eA | with_reducible refine oA ?_ (by dsimp only;omega) _))) (fun x _ h=>⟨.inl h,id⟩),pB _ (by repeat (first | with_reducible exact fA _ _ | with_reducible apply eA | with_reducible refine oA ?_ (by dsimp only;omega) _))⟩
 case true =>
  rw[hi] at his
  have hak:=HAK.out.trans (if_neg (by rw[hi];simp))
  obtain⟨i,rfl,hil,m,rfl,hm⟩:∃ i:Nat,k=i/\i < rs.length/\∃ m:Nat,n=m/\(m:Int) < a.nodes:=by
   unfold Arb.is at hi
   simp at hi
   exact⟨k.toNat,vB,vB,n.toNat,vB,vB⟩
  have hHW:ArbB a b g cap rs (fun x=>F x/\x < w.heap.size) (w.alloc (O #[V I 0,V I 0,V I 0] 55)):=h.keep (pB (fun _=>False) hB0) (fun x hl hx=>⟨⟨hx,hl⟩,id⟩)
  have HHW:=AS hHW
  have hbl:=h.lt
  have hgl:=h.ltg
  have hN0:0≤a.nodes:=h.2.2.2.2.2.2.1
  have hN1:a.nodes≤64:=h.2.2.2.2.2.2.2.1
  have hm64:m < 64:=vB
  obtain⟨N_,hN_⟩:∃ N_:Nat,a.nodes=N_:=⟨a.nodes.toNat,vB⟩
  have hcap:cap≤9223372036854775807:=by obtain⟨A,c,e,-,-,hm,-⟩:=h.2.1.row;simp at e;omega
  have hrow:=h.row hil
  have hmem:rs.getD i arowE.d∈rs:=by simp[List.getD,hil]
  have hqu:=hHW.2.2.2.2.2.2.2.2.2 _ hmem
  have HRW:=AS (show a.row i=(rs.getD i arowE.d).r by unfold Arb.row;rw[show(i:Int).toNat=i by omega,hrow])
  generalize hx:rs.getD i arowE.d=x at *
  obtain⟨⟨sq,⟨ab,an,aq⟩,on,en,kn,qu⟩,q,hh,hk⟩:=x
  have HQU:=AS hqu
  rw[HRW.out,show(m:Int).toNat=m by omega] at hak
  simp only at hak
  have HAK2:=AS hak
  have XR:=AS (nA w (O #[V I 0,V I 0,V I 0] 55))
  have BW:=AS hB0
  have hi0:i < a.rows.length:=vB
  have OW:=AS (hHW.2.1.cell0 hil hx)
  have r0:(0:Int)≤(i:Int):=vB
  have r1:(i:Int) < (rs.length:Int):=vB
  have r2:(0:Int)≤(m:Int):=vB
  have r3:(m:Int) < 64:=vB
  have cs:=own_cells OW.out hil
  have C0:=cw HB.out 0 (v:=V I a.nodes)
  have C1:=cw HB.out 1 (v:=J (M ⟨g,0,U⟩) rs.length cap)
  have e3:(w.alloc (O #[V I 0,V I 0,V I 0] 55)).cell? ⟨g,i * 71+3,U⟩=M (V I aq):=cs 3 yB
  have e5:(w.alloc (O #[V I 0,V I 0,V I 0] 55)).cell? ⟨g,i * 71+5,U⟩=M (aA en):=cs 5 yB
  have e6:(w.alloc (O #[V I 0,V I 0,V I 0] 55)).cell? ⟨g,i * 71+(6+m),U⟩=M (aA (kn.getD m false)):=(cs (6+m) (by show _ < 71;omega)).trans (by
   have hk':kn.length=64:=hk
   show(arowC _)[6+m]?=_
   unfold arowC
   rw[List.getElem?_append_left (by simp[hk'];omega),List.getElem?_append_right zB]
   simp[cB,hk',hm64])
  rw[<- Nat.add_assoc] at e6
  have FZ:∀ j,(w.alloc (O #[V I 0,V I 0,V I 0] 55)).frozen? ⟨g,j,U⟩=false:=fun j=>own_frz OW.out j
  have hsz:(w.alloc (O #[V I 0,V I 0,V I 0] 55)).heap.size=w.heap.size+1:=by simp
  have hbg:b≠g:=h.2.2.2.1
  clear h hHW hack hi hlen hrow hmem hx cs hak HAK hqu
  go_enter Tryz.func128,Tryz.ntmps128
  go_wp2_with fail
  refine(arbIs_any HB.out i m).mono ?_
  rintro e w1 ⟨rfl,rfl⟩
  rw[his]
  generalize (w.alloc (O #[V I 0,V I 0,V I 0] 55))=W at HB HHW HQU XR BW OW C0 C1 e3 e5 e6 FZ hsz ⊢
  have z0:=cw XR.out 0 (v:=V I 0)
  have z1:=cw XR.out 1 (v:=V I 0)
  have z2:=cw XR.out 2 (v:=V I 0)
  have zz0:=jA XR.out 0
  have zz1:=jA XR.out 1
  have zz2:=jA XR.out 2
  have NO:=AS (show ∀ W',W'=((W.setCell ⟨w.heap.size,0,U⟩ (V I 0)).setCell ⟨w.heap.size,1,U⟩ (V I 0)).setCell ⟨w.heap.size,2,U⟩ (V I 0)->ArbX a b (gr F w) W'/\KS F w W' from by
   rintro W' rfl
   have hb:Below w.heap.size w (((W.setCell ⟨w.heap.size,0,U⟩ (V I 0)).setCell ⟨w.heap.size,1,U⟩ (V I 0)).setCell ⟨w.heap.size,2,U⟩ (V I 0)):=((BW.out.setCell (p:=⟨_,_,U⟩) (pA _) _).setCell (p:=⟨_,_,U⟩) (pA _) _).setCell (p:=⟨_,_,U⟩) (pA _) _
   exact⟨AB.out.keep (pB (fun _=>False) hb) (fun x _ h=>⟨.inl h,id⟩),pB _ hb⟩)
  by_cases hg:en=true/\aq=s
  case neg =>
   have hr:=HAK2.out.trans (if_pos (by cases en <;> simp_all))
   cases en
   ·go_wp2
    exact yA (v:=actO U) (by simp[results,Tryz.results128,go_sem,actO,actV,act0,z0,z1,z2]) rfl (by rw[hr];exact⟨rfl,NO.out _ rfl⟩)
   ·have hs:aq≠s:=fun e=>hg ⟨rfl,e⟩
    have hsb:(aq != s)=true:=by simpa using hs
    go_wp2
    exact yA (v:=actO U) (by simp[results,Tryz.results128,go_sem,actO,actV,act0,z0,z1,z2]) rfl (by rw[hr];exact⟨rfl,NO.out _ rfl⟩)
  case pos =>
   obtain⟨rfl,rfl⟩:=hg
   have hr:=HAK2.out.trans (if_neg zB)
   have HAK3:=AS hr
   have hsb:(aq != aq)=false:=by simp
   clear hr HAK2 NO
   have hk1:(kn.set m true).length=64:=by rw[List.length_set];exact hk
   have O1:=AS (OW.out.cell2 hil (6+m) (by show _ < 71;omega) ⟨⟨sq,⟨ab,an,aq⟩,on,true,kn.set m true,qu⟩,q,hh,hk1⟩ (aA true) (set_kn ⟨⟨sq,⟨ab,an,aq⟩,on,true,kn,qu⟩,q,hh,hk⟩ m true hm64 hk1))
   rw[show i * arowE.k+(6+m)=i * 71+6+m from(Nat.add_assoc _ _ _).symm] at O1
   have hk2:KS (fun x=>x=g) W (W.setCell ⟨g,i * 71+6+m,U⟩ (aA true)):=KS.set (F:=fun x=>x=g) (qB _ W) (.inl rfl) _ _
   have K2:=AS hk2
   have hs1:(W.setCell ⟨g,i * 71+6+m,U⟩ (aA true)).heap.size=w.heap.size+1:=by simp[hsz]
   generalize hkn:kn.set m true=kn1 at *
   go_upto_region 8 with fail
   have A2:=AS (show((W.setCell ⟨g,i * 71+6+m,U⟩ (aA true)).alloc (bc213 zK)).heap[w.heap.size+1]?=M (bc213 (frst 0)) from by rw[frst_zero,<- hs1];exact nA _ _)
   have K21:=AS (K2.out.andBelow (eA (fA _ _) (bc213 zK)))
   have O2:=AS (O1.out.ks (pB (fun _=>False) (eA (fA _ _) (bc213 zK))) (fun _ _=>id))
   have hs2:((W.setCell ⟨g,i * 71+6+m,U⟩ (aA true)).alloc (bc213 zK)).heap.size=w.heap.size+2:=by simp[hsz]
   obtain⟨W2,hW2⟩:∃ W2,W2=(W.setCell ⟨g,i * 71+6+m,U⟩ (aA true)).alloc (bc213 zK):=⟨_,rfl⟩
   rw[<- hW2] at A2 K21 O2 hs2
   rw[show(W.setCell ⟨g,i * 71+6+m,U⟩ (aA true)).alloc (O #[aA false,aA false,aA false,aA false,aA false,aA false,aA false,aA false,aA false,aA false,aA false,aA false,aA false,aA false,aA false,aA false,aA false,aA false,aA false,aA false,aA false,aA false,aA false,aA false,aA false,aA false,aA false,aA false,aA false,aA false,aA false,aA false,aA false,aA false,aA false,aA false,aA false,aA false,aA false,aA false,aA false,aA false,aA false,aA false,aA false,aA false,aA false,aA false,aA false,aA false,aA false,aA false,aA false,aA false,aA false,aA false,aA false,aA false,aA false,aA false,aA false,aA false,aA false,aA false] 213)=W2 from hW2.symm]
   have XR2:=AS (K21.out.at_ XR.out (by show ¬ _=g;omega))
   have HB2:=AS (K21.out.at_ HB.out (by show ¬ b=g;exact hbg))
   have c0':W2.cell? ⟨b,0,U⟩=M (V I (N_:Int)):=(oB HB2.out 0).trans (by rw[hN_];rfl)
   clear hW2 hk2 hs1 K2 O1 e6 e5 e3 FZ z0 z1 z2 zz0 zz1 zz2 C0 C1 HB
   go_wp2_with fail
   go_loopw [12,49] (fun v12 v49 wr=>∃ (j:Nat),v49=V I j/\j≤N_/\Aside0 (wr.heap[w.heap.size+1]?=M (bc213 (frst j))/\KS (fun x=>x=w.heap.size+1) W2 wr)) (fun _ v49 _=>65 - (intOf v49).toNat)
   case atStart=>exact⟨0,rfl,vB,⟨A2.out,qB _ _⟩⟩
   case round =>
    obtain⟨j,rfl,hj,R⟩:=hrel
    by_cases c1:j < N_
    ·have hj64:j < 64:=vB
     have q2:(j:Int) < (N_:Int):=vB
     have q0:(0:Int)≤(j:Int):=vB
     have q1:(j:Int) < 64:=vB
     have a0_:=bc_cell R.out.1 (j:=j) (by rw[frst_len];exact hj64)
     have az_:wr.frozen? ⟨w.heap.size+1,j,U⟩=false:=jA R.out.1 j
     go_wp2
     go_roundw
     case rel =>
      refine⟨j+1,by go_num,vB,⟨?_,KS.set (F:=fun x=>x=w.heap.size+1) R.out.2 (.inl rfl) _ _⟩⟩
      have h3:=bc_set R.out.1 j true
      rw[frst_set j hj64] at h3
      exact h3
     case measure=>simp[intOf];omega
    ·have hjn:j=N_:=vB
     subst hjn
     have O3:=AS (O2.out.ks R.out.2 (fun x hx e=>by simp[foot_slice] at hx;have e':x=w.heap.size+1:=e;omega))
     have R2:=AS (show wr.drew.rangeAt (w.heap.size+1) 0 ((frst j).map fun b=>Value.bool b) from bc_range (fB R.out.1))
     have cs3:=own_cells O3.out hil
     have R1:=AS (show wr.drew.rangeAt g (i * 71+6) (kn1.map fun b=>Value.bool b) from fun q v hv=>by
      have hq:q < 64:=by have:=(List.getElem?_eq_some_iff.1 hv).1;rw[List.length_map,hk1] at this;exact this
      have h6:=cs3 (6+q) (by show _ < 71;omega)
      rw[show i * arowE.k+(6+q)=i * 71+6+q from(Nat.add_assoc _ _ _).symm] at h6
      refine Eq.trans (show wr.drew.cell? ⟨g,i * 71+6+q,U⟩=wr.cell? ⟨g,i * 71+6+q,U⟩ from rfl) (h6.trans ?_)
      show(arowC _)[6+q]?=_
      unfold arowC
      rw[List.getElem?_append_left (by simp[hk1];omega),List.getElem?_append_right zB]
      simpa using hv)
     have e5:wr.cell? ⟨g,i * 71+5,U⟩=M (aA true):=cs3 5 yB
     have FZ:wr.frozen? ⟨g,i * 71+5,U⟩=false:=own_frz O3.out _
     have XR3:=AS (R.out.2.at_ XR2.out (by show ¬ _=_;omega))
     have K3:=AS (show KS (fun x=>x=g) W wr from K21.out.trans R.out.2 (fun x hx e=>by have e':x=w.heap.size+1:=e;omega))
     clear cs3
     go_upto_region 13 with fail
     go_cut [60] (fun v60 wx=>v60=aA (!(kn1 == frst j))/\wx=wr.drew)
     case first =>
      refine wp_region_any xB ?_
      (try (change wpAny _ _ _ _ _ _ _ (World.drew _)))
      refine zA (i:=0) (v:=?_) rfl xB xB xB (fun _ _ _ h=>h) (Or.inl ⟨xB,?_⟩) ?_
      rotate_left
      ·intro w;go_simp;try (with_reducible rfl)
      rotate_left
      refine zA (i:=1) (v:=?_) rfl xB xB xB (fun _ _ _ h=>h) (Or.inl ⟨xB,?_⟩) ?_
      rotate_left
      ·intro w;go_simp;try (with_reducible rfl)
      rotate_left
      refine zA (i:=2) (v:=?_) rfl xB xB xB (fun _ _ _ h=>h) (Or.inl ⟨xB,?_⟩) ?_
      rotate_left
      ·intro w;go_simp;try (with_reducible rfl)
      rotate_left
      refine wpAny_ready (rs:=[3,4]) xB zB ?_
      refine mB rfl (fun K hK=>?_) (mB rfl (fun K hK=>?_) AllReady.nil)
      ·rw[if_pos xB]
       refine wp_load213 _ rfl g (i * 71+6) xB kn1 hk1 R1.out ?_
       refine hK _ _ ?_
       clear hK K
       go_simp
       refine wpAny_ready (rs:=[4]) xB zB ?_
       refine mB rfl (fun K hK=>?_) AllReady.nil
       rw[if_pos xB]
       refine wp_load213 _ rfl (w.heap.size+1) 0 xB (frst j) (frst_len _) R2.out ?_
       refine hK _ _ ?_
       clear hK K
       go_simp
       refine wpAny_ready (rs:=[5]) xB zB ?_
       refine mB rfl (fun K hK=>?_) AllReady.nil
       rw[if_pos xB]
       refine wp_neq213 _ _ _ rfl kn1 (frst j) xB xB hk1 (frst_len _) ?_
       refine hK _ _ ?_
       clear hK K
       go_simp
       refine wpAny_done xB ?_ _
       go_simp
       go_wp2_with fail
       go_meet
       refine⟨?_,rfl⟩
       first
        | rfl
        | (simp[bne];done)
        | trace_state
      ·rw[if_pos xB]
       refine wp_load213 _ rfl (w.heap.size+1) 0 xB (frst j) (frst_len _) R2.out ?_
       refine hK _ _ ?_
       clear hK K
       go_simp
       refine wpAny_ready (rs:=[3]) xB zB ?_
       refine mB rfl (fun K hK=>?_) AllReady.nil
       rw[if_pos xB]
       refine wp_load213 _ rfl g (i * 71+6) xB kn1 hk1 R1.out ?_
       refine hK _ _ ?_
       clear hK K
       go_simp
       refine wpAny_ready (rs:=[5]) xB zB ?_
       refine mB rfl (fun K hK=>?_) AllReady.nil
       rw[if_pos xB]
       refine wp_neq213 _ _ _ rfl kn1 (frst j) xB xB hk1 (frst_len _) ?_
       refine hK _ _ ?_
       clear hK K
       go_simp
       refine wpAny_done xB ?_ _
       go_simp
       go_wp2_with fail
       go_meet
       refine⟨?_,rfl⟩
       first
        | rfl
        | (simp[bne];done)
        | trace_state
     case rest =>
      obtain⟨rfl,rfl⟩:=hcut
      have hz:a.nodes.toNat=j:=vB
      have hak:=HAK3.out
      rw[all_frst a.nodes hN0,hz] at hak
      have HAK4:=AS hak
      have z0:=cw (fB XR3.out) 0 (v:=V I 0)
      have z1:=cw (fB XR3.out) 1 (v:=V I 0)
      have z2:=cw (fB XR3.out) 2 (v:=V I 0)
      have zz0:=jA (fB XR3.out) 0
      have zz1:=jA (fB XR3.out) 1
      have zz2:=jA (fB XR3.out) 2
      have NB:=AS (show ∀ x,gr (fun x=>F x/\x < w.heap.size) W x->gr F w x/\x≠w.heap.size from fun x hx=>by
       rcases hx with hx | hx
       ·exact⟨.inl hx.1,by have:=hx.2;omega⟩
       ·exact⟨.inr vB,vB⟩)
      have KT:=AS (show ∀ W',KS (fun x=>F x/\x < w.heap.size) W W'->KS F w W' from fun W' hk=>(pB F BW.out).trans hk (fun x _ h=>h.1))
      by_cases hkf:kn1=frst j
      case neg =>
       have hr:=HAK4.out.trans (if_pos hkf)
       have hv:(!(kn1 == frst j))=true:=by simpa using hkf
       obtain⟨hX,hk⟩:=HHW.out.setRow (w':=wr.drew) hil ⟨⟨sq,⟨ab,an,aq⟩,on,true,kn1,qu⟩,q,hh,hk1⟩ K3.out.drew O3.out.drew_ (HQU.out.keep K3.out.drew (fun x hx hF=>⟨.inl hF,fun h1 h2=>h2⟩))
       have X1:=AS (qA hX hk)
       have hcs:(a.setRow i ⟨sq,⟨ab,an,aq⟩,on,true,kn1,qu⟩)={ a with rows:=a.rows.set i ⟨sq,⟨ab,an,aq⟩,on,true,kn1,qu⟩}:=by unfold Arb.setRow;rw[show(i:Int).toNat=i by omega]
       rw[hv]
       clear hX hk
       generalize wr.drew=w3 at X1 z0 z1 z2 zz0 zz1 zz2 ⊢
       go_wp2
       refine yA (v:=actO U) (by simp[results,Tryz.results128,go_sem,actO,actV,act0,z0,z1,z2]) rfl ?_
       (try rw[hr])
       have hX1:=X1.out.1
       (try rw[hcs])
       (try simp only[hN_] at hX1)
       have hk6:KS (fun x=>x=w.heap.size) w3 (((w3.setCell ⟨w.heap.size,0,U⟩ (V I 0)).setCell ⟨w.heap.size,1,U⟩ (V I 0)).setCell ⟨w.heap.size,2,U⟩ (V I 0)):=KS.set (F:=fun x=>x=w.heap.size) (KS.set (F:=fun x=>x=w.heap.size) (KS.set (F:=fun x=>x=w.heap.size) (qB _ _) (.inl rfl) _ _) (.inl rfl) _ _) (.inl rfl) _ _
       exact⟨rfl,hX1.keep hk6 (fun x _ hx=>⟨(NB.out x hx).1,(NB.out x hx).2⟩),(KT.out _ X1.out.2).trans (hk6.mono (G:=fun x=>x=w.heap.size) (fun _ _ h=>h)) (fun x hx e=>by have e':x=w.heap.size:=e;omega)⟩
      case pos =>
       have hr:=HAK4.out.trans (if_neg (by simpa using hkf))
       have hv:(!(kn1 == frst j))=false:=by simpa using hkf
       have K5:KS (fun x=>x=g) W ((wr.setCell ⟨g,i * 71+5,U⟩ (aA false)).drew):=(KS.set (F:=fun x=>x=g) K3.out (.inl rfl) _ _).drew
       have O5:=(O3.out.cell2 hil 5 yB ⟨⟨sq,⟨ab,an,aq⟩,on,false,kn1,qu⟩,q,hh,hk1⟩ (aA false) (set_en ⟨⟨sq,⟨ab,an,aq⟩,on,true,kn1,qu⟩,q,hh,hk1⟩ false)).drew_
       obtain⟨hX,hk⟩:=HHW.out.setRow hil ⟨⟨sq,⟨ab,an,aq⟩,on,false,kn1,qu⟩,q,hh,hk1⟩ K5 O5 (HQU.out.keep K5 (fun x hx hF=>⟨.inl hF,fun h1 h2=>h2⟩))
       have hcs:(a.setRow i ⟨sq,⟨ab,an,aq⟩,on,false,kn1,qu⟩)={ a with rows:=a.rows.set i ⟨sq,⟨ab,an,aq⟩,on,false,kn1,qu⟩}:=by unfold Arb.setRow;rw[show(i:Int).toNat=i by omega]
       have X5:=AS hX
       have H5:=AS hk
       have XR5:=AS (hk.at_ XR.out (by intro hx;have:=hx.2;omega))
       have HN:=AS (arbNext_any hX (i:=i) (by simpa using hi0))
       rw[<- hcs] at HN
       have e5d:wr.drew.cell? ⟨g,i * 71+5,U⟩=M (aA true):=e5
       have fzd:wr.drew.frozen? ⟨g,i * 71+5,U⟩=false:=FZ
       clear hX hk K5 O5 hcs z0 z1 z2 zz0 zz1 zz2 e5 FZ
       rw[hv]
       generalize (a.setRow i ⟨sq,⟨ab,an,aq⟩,on,false,kn1,qu⟩).next i=nx at *
       obtain⟨nx1,nx2⟩:=nx
       have HAV:=AS (show actO nx2=.tuple #[.agg #[V I (nx2.getD act0).block,V I (nx2.getD act0).node,V I (nx2.getD act0).seq],aA nx2.isSome] from rfl)
       go_wp2_with fail
       generalize (wr.setCell ⟨g,i * 71+5,U⟩ (aA false)).drew=w4 at X5 H5 XR5 HN ⊢
       refine HN.out.mono ?_
       rintro e w5 ⟨rfl,hX5,hk5⟩
       simp only
       rw[HAV.out]
       generalize (nx2.getD act0).block=m1 at *
       generalize (nx2.getD act0).node=m2 at *
       generalize (nx2.getD act0).seq=m3 at *
       generalize nx2.isSome=m4 at *
       have NG:=notGr (P:=(fun x=>F x/\x < w.heap.size)) (W:=W) (notP0 (pA w.heap.size)) (eB XR.out)
       have X6:=AS hX5
       have XR6:=AS (hk5.at_ XR5.out NG)
       have NB6:=AS (notGr (W:=w4) NG (eB XR5.out))
       have CH5:=AS ((((Ch.refl F w).below BW.out).op H5.out).op hk5)
       clear hX5 hk5 HN NG
       have z0:=cw XR6.out 0 (v:=V I 0)
       have z1:=cw XR6.out 1 (v:=V I 0)
       have z2:=cw XR6.out 2 (v:=V I 0)
       have zz0:=jA XR6.out 0
       have zz1:=jA XR6.out 1
       have zz2:=jA XR6.out 2
       go_wp2
       have hk6:=((((qB (fun x=>x=w.heap.size) w5).set (g:=w.heap.size) (.inl rfl) 0 (V I m1)).set (g:=w.heap.size) (.inl rfl) 1 (V I m2)).set (g:=w.heap.size) (.inl rfl) 2 (V I m3))
       have hch:=(((CH5.out.set (pA _) 0 (V I m1)).set (pA _) 1 (V I m2)).set (pA _) 2 (V I m3))
       refine yA (v:=.tuple #[.agg #[V I m1,V I m2,V I m3],aA m4]) (by simp[results,Tryz.results128,go_sem,z0,z1,z2]) rfl ?_
       rw[hr]
       refine⟨by rw[HAV.out],?_,hch.1⟩
       exact X6.out.keep hk6 (fun x _ hx=>⟨hch.2 x hx,fun e=>NB6.out (e ▸ hx)⟩)
end Go.Proofs.YtiebppkhaiofeaaGreat.K
namespace Go.Proofs.YtiebppkhaiofeaaGreat.K
open Go.RowKit Go.Proofs.YtiebppkhaiofeaaGreatW.PrintWords Go.Proofs.YtiebppkhaiofeaaGreat.S
attribute [local go_sem] World.cell?_alloc_some
open Go.MapKept
section
variable {bs:List Bun} {b:Nat} {F F' G:Set_} {w w':cA}
theorem MemAt.keep (h:MemAt bs b F w) (hk:KS G w w') (hs:∀ x,x < w.heap.size->F x->F' x/\¬ G x):MemAt bs b F' w':=by
 obtain⟨v,h1,h2,h3,h4,h5,h6⟩:=h
 exact⟨v,hk.at_ h1 (hs b (eB h1) h4).2,h2.ks hk (fun x hx=>(hs x (h2.lt x hx) (h5 x hx)).2),h3,(hs b (eB h1) h4).1,fun x hx=>(hs x (h2.lt x hx) (h5 x hx)).1,h6⟩
theorem MemAt.lt (h:MemAt bs b F w):b < w.heap.size:=by obtain⟨v,h1,_⟩:=h;exact eB h1
theorem MemAt.mem (h:MemAt bs b F w):F b:=by obtain⟨v,h1,h2,h3,h4,_⟩:=h;exact h4
end
def memHas (bs:List Bun) (k:Int):Bool:=decide (0≤k/\k < bs.length)
def memGet (bs:List Bun) (k:Int):Bun:=if memHas bs k then bs.getD k.toNat b0 else b0
def memSet (bs:List Bun) (k:Int) (y:Bun):List Bun:=if memHas bs k then bs.set k.toNat y else bs
theorem memHas_nat {bs:List Bun} {i:Int} (h:memHas bs i=true):∃ n:Nat,i=n/\n < bs.length:=by
 simp[memHas] at h
 exact⟨i.toNat,vB,vB⟩
def MemP (v:Value) (bs:List Bun) (b:Nat) (F:Set_) (w:cA) (e:Ending) (w':cA):Prop:=e=.returned v/\MemAt bs b (gr F w) w'/\KS F w w'
theorem memIs_blk {b n c:Nat} {A:Option Addr} {w:cA} (hB:w.heap[b]?=M (O #[J A n c] 168 (0,0))) (k:Int):bB dA 145 #[bA (M ⟨b,0,U⟩),V I k] w (RQ (aA (decide (0≤k/\k < n))) w):=by
 have c0:=cw hB 0 (v:=J A n c)
 clear hB
 by_cases h0:0≤k
 ·by_cases h1:k < n
  all_goals
   go_enter Tryz.func145,Tryz.ntmps145
   go_wp2
   go_ret
   exact RQ.of (by simp[h0,h1])
 ·go_enter Tryz.func145,Tryz.ntmps145
  go_wp2
  go_ret
  exact RQ.of (by simp[h0];omega)
theorem memGet_no {bs:List Bun} {b:Nat} {F:Set_} {w:cA} (hM:MemAt bs b F w) {k:Int} (hk:memHas bs k=false):bB dA 122 #[bA (M ⟨b,0,U⟩),V I k] w (RV (bunV b0) w):=by
 obtain⟨v,hB,hO,hv,hb,hf,h6⟩:=hM
 obtain⟨A,c,rfl,hr,hc,hm,hn⟩:=hO.row
 have B1:=AS (lA hB (O #[V I 0,aA false,aA false,V I 0] 45))
 have hk':decide (0≤k/\k < (bs.length:Int))=false:=hk
 clear hr hO hB hf hv hn hk
 go_enter Tryz.func122,Tryz.ntmps122
 go_wp2_with fail
 refine(memIs_blk B1.out k).mono ?_
 rintro e w1 ⟨rfl,rfl⟩
 rw[hk']
 go_wp2
 exact yA (v:=bunV b0) (by simp[results,Tryz.results122,go_sem,bunV,b0]) rfl ⟨rfl,by repeat (first | with_reducible exact fA _ _ | with_reducible apply eA | with_reducible refine oA ?_ (by dsimp only;omega) _)⟩
theorem memGet_yes {bs:List Bun} {b i:Nat} {F:Set_} {w:cA} (hM:MemAt bs b F w) (hi:i < bs.length):bB dA 122 #[bA (M ⟨b,0,U⟩),V I i] w (RV (bunV (bs.getD i b0)) w):=by
 obtain⟨v,hB,hO,hv,hb,hf,h6⟩:=hM
 obtain⟨g',cap,rfl,hc63,hcap,hlt',-⟩:=own_some hO hi
 have hC:=bun_cells hO hi
 obtain⟨⟨e0,e1,e2,e3⟩,ez⟩:=hC
 generalize hy:bs.getD i b0=y at *
 obtain⟨y0,y1,y2,y3⟩:=y
 simp only at e0 e1 e2 e3
 have c0:=cw hB 0 (v:=J (M ⟨g',0,U⟩) bs.length cap)
 have B1:=AS (lA hB (O #[V I 0,aA false,aA false,V I 0] 45))
 have hk':decide (0≤(i:Int)/\(i:Int) < (bs.length:Int))=true:=by simp[hi]
 have q0:(0:Int)≤(i:Int):=vB
 have q1:(i:Int) < (bs.length:Int):=vB
 clear hO hB hf hv ez
 go_enter Tryz.func122,Tryz.ntmps122
 go_wp2_with fail
 refine(memIs_blk B1.out i).mono ?_
 rintro e w1 ⟨rfl,rfl⟩
 rw[hk']
 go_wp2
 exact yA (v:=bunV ⟨y0,y1,y2,y3⟩) (by simp[results,Tryz.results122,go_sem,bunV]) rfl ⟨rfl,by repeat (first | with_reducible exact fA _ _ | with_reducible apply eA | with_reducible refine oA ?_ (by dsimp only;omega) _)⟩
theorem memGet_any {bs:List Bun} {b:Nat} {F:Set_} {w:cA} (hM:MemAt bs b F w) (k:Int):bB dA 122 #[bA (M ⟨b,0,U⟩),V I k] w (RV (bunV (memGet bs k)) w):=by
 cases h:memHas bs k with
 | false=>rw[show memGet bs k=b0 by simp[memGet,h]];exact memGet_no hM h
 | true =>
  obtain⟨n,rfl,hn⟩:=memHas_nat h
  rw[show memGet bs n=bs.getD n b0 by simp[memGet,h]]
  exact memGet_yes hM hn
theorem memAll_any {bs:List Bun} {b:Nat} {F:Set_} {w:cA} (hM:MemAt bs b F w):bB dA 65 #[bA (M ⟨b,0,U⟩)] w (NewRow bunE bs w):=by
 obtain⟨v,hB,hO,hv,hb,hf,h6⟩:=hM
 obtain⟨A,c,rfl,hr,hc,hm,hn⟩:=hO.row
 have c0:=cw hB 0 (v:=J A bs.length c)
 have hmk:=run_makeE (E:=bunE) bs.length (by show _ * 24≤_;omega) w
 have hcp:=run_copyE (E:=bunE) (W:=w.alloc (O (flat bunE (uA bs.length bunE.d)).toArray bunE.T)) (g:=w.heap.size) (n:=bs.length) (A:=A) (ys:=bs) (c:=c) (m:=bs.length) 3 (heap_alloc w _).1 (by simp[flat_len]) (RowE.below hr (eA (fA _ _) _)) rfl rfl hn
 have OC:=AS (ownE_copied (E:=bunE) (ys:=bs) (heap_alloc w (O (flat bunE (uA bs.length bunE.d)).toArray bunE.T)).1 rfl vB)
 have KB:=AS (show Below w.heap.size w ((w.alloc (O (flat bunE (uA bs.length bunE.d)).toArray bunE.T)).setRow w.heap.size (flat bunE bs).toArray) from(eA (fA _ _) _).trans ⟨rfl,rfl,rfl,by simp[World.setRow],fun k hk=>setRow_other _ _ k _ vB⟩)
 clear hr hO hB hf hv hn
 simp only[show bunE.S=38 from rfl] at hmk hcp
 generalize (Obj.cells (flat bunE (uA bs.length bunE.d)).toArray bunE.T)=ob at *
 generalize (flat bunE bs).toArray=fl at *
 go_enter Tryz.func65,Tryz.ntmps65
 go_wp2
 go_ret
 exact⟨_,rfl,OC.out,by intro x hx;simp[foot_slice] at hx;omega,KB.out⟩
theorem memCopy_any {bs:List Bun} {b:Nat} {F:Set_} {w:cA} (hM:MemAt bs b F w):bB dA 76 #[bA (M ⟨b,0,U⟩)] w fun e w'=>∃ b',e=.returned (bA (M ⟨b',0,U⟩))/\MemAt bs b' (nw w) w'/\Below w.heap.size w w':=by
 have HL:=AS (memAll_any hM)
 have h6:bs.length≤64:=by obtain⟨v,hB,hO,hv,hb,hf,h6⟩:=hM;exact h6
 clear hM
 go_enter Tryz.func76,Tryz.ntmps76
 go_wp2_with fail
 refine HL.out.mono ?_
 rintro e w1 ⟨u,rfl,hO,hf,hb⟩
 have O1:=AS hO
 have FF:=AS hf
 have BB:=AS hb
 obtain⟨A1,n1,k1,rfl⟩:∃ A n c,u=J A n c:=by obtain⟨A,c,h,_⟩:=OwnE.row hO;exact⟨_,_,_,h⟩
 clear hO hf hb
 go_wp2
 go_ret
 refine⟨_,rfl,⟨_,nA w1 _,O1.out.ks (pB (fun _=>False) (eA (fA _ _) _)) (fun _ _=>id),?_,BB.out.size,FF.out,h6⟩,eA BB.out _⟩
 intro hx
 have:=O1.out.lt _ hx
 omega
theorem memStored {bs':List Bun} {v:Value} {b:Nat} {F:Set_} {w w1:cA} (hB:w1.heap[b]?=M (O #[v] 168 (0,0))) (hO:OwnE bunE v bs' w1) (hb:F b) (hf:∀ x∈foot v,F x) (hv:b∉foot v) (hl:bs'.length≤64) (hk:KS F w w1):MemAt bs' b F w1/\KS F w w1:=⟨⟨v,hB,hO,hv,hb,hf,hl⟩,hk⟩
theorem MemAt.sub {bs:List Bun} {b:Nat} {F F':Set_} {w:cA} (h:MemAt bs b F w) (hs:∀ x,F x->F' x):MemAt bs b F' w:=by
 obtain⟨v,h1,h2,h3,h4,h5,h6⟩:=h
 exact⟨v,h1,h2,h3,hs b h4,fun x hx=>hs x (h5 x hx),h6⟩
theorem memWrite {bs:List Bun} {b g' cap i:Nat} {F:Set_} {w w1:cA} (hB:w1.heap[b]?=M (O #[J (M ⟨g',0,U⟩) bs.length cap] 168 (0,0))) (hO:OwnE bunE (J (M ⟨g',0,U⟩) bs.length cap) bs w1) (hi:i < bs.length) (y:Bun) (hb:F b) (hg:F g') (hv:b≠g') (hl:bs.length≤64) (hk:KS F w w1) :
  MemAt (bs.set i y) b F (((((w1).setCell ⟨g',i * 4,U⟩ (V I y.count)).setCell ⟨g',i * 4+1,U⟩ (aA y.owner)).setCell ⟨g',i * 4+2,U⟩ (aA y.has)).setCell ⟨g',i * 4+3,U⟩ (V I y.data))/\KS F w (((((w1).setCell ⟨g',i * 4,U⟩ (V I y.count)).setCell ⟨g',i * 4+1,U⟩ (aA y.owner)).setCell ⟨g',i * 4+2,U⟩ (aA y.has)).setCell ⟨g',i * 4+3,U⟩ (V I y.data)):=by
 have h1:=bun_set hO hi y
 refine memStored (v:=J (M ⟨g',0,U⟩) bs.length cap) ?_ h1 hb (by intro x hx;simp[foot_slice] at hx;subst hx;exact hg) (by simpa [foot_slice] using hv) (by simpa using hl) ?_
 ·exact blk_far (blk_far (blk_far (blk_far hB (p:=⟨g',_,U⟩) hv _) (p:=⟨g',_,U⟩) hv _) (p:=⟨g',_,U⟩) hv _) (p:=⟨g',_,U⟩) hv _
 ·exact(((hk.set (.inl hg) _ _).set (.inl hg) _ _).set (.inl hg) _ _).set (.inl hg) _ _
theorem memPut_no {bs:List Bun} {b:Nat} {F:Set_} {w:cA} (hM:MemAt bs b F w) {k:Int} (hk:memHas bs k=false) (c:Int) (o h:Bool) (d:Int):bB dA 120 #[bA (M ⟨b,0,U⟩),V I k,.agg #[V I c,aA o,aA h,V I d]] w (MemP (aA false) bs b F w):=by
 have M_:=AS hM
 obtain⟨v,hB,hO,hv,hb,hf,h6⟩:=hM
 obtain⟨A,cp,rfl,hr,hc,hm,hn⟩:=hO.row
 have B1:=AS (lA hB (O #[V I c,aA o,aA h,V I d] 45))
 have hk':decide (0≤k/\k < (bs.length:Int))=false:=hk
 clear hr hO hB hf hv hn hk
 go_enter Tryz.func120,Tryz.ntmps120
 go_wp2_with fail
 refine(memIs_blk B1.out k).mono ?_
 rintro e w1 ⟨rfl,rfl⟩
 rw[hk']
 go_wp2
 go_ret
 exact⟨rfl,M_.out.keep (pB (fun _=>False) (eA (fA _ _) _)) (fun x _ h=>⟨.inl h,id⟩),pB _ (eA (fA _ _) _)⟩
theorem memPut_yes {bs:List Bun} {b i:Nat} {F:Set_} {w:cA} (hM:MemAt bs b F w) (hi:i < bs.length) (c:Int) (o h:Bool) (d:Int):bB dA 120 #[bA (M ⟨b,0,U⟩),V I i,.agg #[V I c,aA o,aA h,V I d]] w (MemP (aA true) (bs.set i (join (bs.getD i b0) ⟨c,o,h,d⟩)) b F w):=by
 obtain⟨v,hB,hO,hv,hb,hf,h6⟩:=hM
 obtain⟨g',cap,rfl,hc63,hcap,hlt',-⟩:=own_some hO hi
 have hC:=bun_cells hO hi
 obtain⟨⟨e0,e1,e2,e3⟩,ez⟩:=hC
 generalize hy:bs.getD i b0=y at *
 obtain⟨y0,y1,y2,y3⟩:=y
 simp only at e0 e1 e2 e3
 have hne:b≠g':=fun e=>hv (by simp[foot_slice,e])
 have HF:=AS (qA hb (hf g' (by simp[foot_slice])))
 have c0:=cw hB 0 (v:=J (M ⟨g',0,U⟩) bs.length cap)
 have B1:=AS (lA hB (O #[V I c,aA o,aA h,V I d] 45))
 have HW:=AS (show ∀ w1,Below w.heap.size w w1->w1.heap[b]?=M (O #[J (M ⟨g',0,U⟩) bs.length cap] 168 (0,0))/\OwnE bunE (J (M ⟨g',0,U⟩) bs.length cap) bs w1 from fun w1 hb=>⟨kA hB hb,hO.ks (pB (fun _=>False) hb) (fun _ _=>id)⟩)
 have hk':decide (0≤(i:Int)/\(i:Int) < (bs.length:Int))=true:=by simp[hi]
 have q0:(0:Int)≤(i:Int):=vB
 have q1:(i:Int) < (bs.length:Int):=vB
 have HN:=AS hne
 generalize hj:join ⟨y0,y1,y2,y3⟩ ⟨c,o,h,d⟩=jn
 have HJ:=AS hj
 obtain⟨j0,j1,j2,j3⟩:=jn
 clear hO hB hf hv hb hne hj
 go_enter Tryz.func120,Tryz.ntmps120
 go_wp2_with fail
 refine(memIs_blk B1.out i).mono ?_
 rintro e w1 ⟨rfl,rfl⟩
 rw[hk']
 go_wp2_with fail
 go_region_with (go_at_call 146;refine(join_any _ _ _ _ _ _ _ _ _).mono ?_;rintro e w1 ⟨rfl,hbl⟩;rw[HJ.out];have BB:=AS (show Below w.heap.size w w1 from(iA (eA (fA _ _) _)).trans (hbl.mono (by simp[World.drew])));clear hbl;have W1:=AS (HW.out w1 BB.out);have C1:=AS (bun_cells W1.out.2 hi);have c0':w1.cell? ⟨b,0,U⟩=M (J (M ⟨g',0,U⟩) bs.length cap):=cw W1.out.1 0;have f0:=C1.out.1.1;have f1:=C1.out.1.2.1;have f2:=C1.out.1.2.2.1;have f3:=C1.out.1.2.2.2;have fz:=C1.out.2;simp only[bunV])
 all_goals
  go_wp2
  go_ret
  have:=memWrite W1.out.1 W1.out.2 hi ⟨j0,j1,j2,j3⟩ HF.out.1 HF.out.2 HN.out h6 (pB F BB.out)
  exact⟨rfl,this.1.sub (fun _ h=>.inl h),this.2⟩
theorem memPut_any {bs:List Bun} {b:Nat} {F:Set_} {w:cA} (hM:MemAt bs b F w) (k:Int) (t:Bun):bB dA 120 #[bA (M ⟨b,0,U⟩),V I k,bunV t] w (MemP (aA (memHas bs k)) (memSet bs k (join (memGet bs k) t)) b F w):=by
 obtain⟨c,o,h,d⟩:=t
 cases h1:memHas bs k with
 | false=>rw[show memSet bs k (join (memGet bs k) ⟨c,o,h,d⟩)=bs by simp[memSet,h1]];exact memPut_no hM h1 c o h d
 | true =>
  obtain⟨n,rfl,hn⟩:=memHas_nat h1
  rw[show memSet bs n (join (memGet bs n) ⟨c,o,h,d⟩)=bs.set n (join (bs.getD n b0) ⟨c,o,h,d⟩) by simp[memSet,memGet,h1]]
  exact memPut_yes hM hn c o h d
theorem memTake_no {bs:List Bun} {b:Nat} {F:Set_} {w:cA} (hM:MemAt bs b F w) {k:Int} (hk:memHas bs k=false) (n:Int) (o d:Bool):bB dA 123 #[bA (M ⟨b,0,U⟩),V I k,V I n,aA o,aA d] w (MemP (bunV b0) bs b F w):=by
 have M_:=AS hM
 obtain⟨v,hB,hO,hv,hb,hf,h6⟩:=hM
 obtain⟨A,cp,rfl,hr,hc,hm,hn⟩:=hO.row
 have B1:=AS (lA hB (O #[V I 0,aA false,aA false,V I 0] 45))
 have hk':decide (0≤k/\k < (bs.length:Int))=false:=hk
 clear hr hO hB hf hv hn hk
 go_enter Tryz.func123,Tryz.ntmps123
 go_wp2_with fail
 refine(memIs_blk B1.out k).mono ?_
 rintro e w1 ⟨rfl,rfl⟩
 rw[hk']
 go_wp2
 have hbl:Below w.heap.size w (w.alloc (O #[V I 0,aA false,aA false,V I 0] 45)):=eA (fA _ _) _
 exact yA (v:=bunV b0) (by simp[results,Tryz.results123,go_sem,bunV,b0]) rfl ⟨rfl,M_.out.keep (pB (fun _=>False) (by repeat (first | with_reducible exact fA _ _ | with_reducible apply eA | with_reducible refine oA ?_ (by dsimp only;omega) _))) (fun x _ h=>⟨.inl h,id⟩),pB _ (by repeat (first | with_reducible exact fA _ _ | with_reducible apply eA | with_reducible refine oA ?_ (by dsimp only;omega) _))⟩
theorem memTake_yes {bs:List Bun} {b i:Nat} {F:Set_} {w:cA} (hM:MemAt bs b F w) (hi:i < bs.length) (n:Int) (o d:Bool):bB dA 123 #[bA (M ⟨b,0,U⟩),V I i,V I n,aA o,aA d] w (MemP (bunV (split (bs.getD i b0) n o d).1) (bs.set i (split (bs.getD i b0) n o d).2) b F w):=by
 have hlb:=hM.lt
 obtain⟨v,hB,hO,hv,hb,hf,h6⟩:=hM
 obtain⟨g',cap,rfl,hc63,hcap,hlt',-⟩:=own_some hO hi
 have hC:=bun_cells hO hi
 obtain⟨⟨e0,e1,e2,e3⟩,ez⟩:=hC
 generalize hy:bs.getD i b0=y at *
 obtain⟨y0,y1,y2,y3⟩:=y
 simp only at e0 e1 e2 e3
 have hne:b≠g':=fun e=>hv (by simp[foot_slice,e])
 have HF:=AS (qA hb (qA (hf g' (by simp[foot_slice])) (qA hlb hlt')))
 have c0:=cw hB 0 (v:=J (M ⟨g',0,U⟩) bs.length cap)
 have B1:=AS (lA hB (O #[V I 0,aA false,aA false,V I 0] 45))
 have XR:=AS (nA w (O #[V I 0,aA false,aA false,V I 0] 45))
 have HW:=AS (show ∀ w1,Below w.heap.size w w1->w1.heap[b]?=M (O #[J (M ⟨g',0,U⟩) bs.length cap] 168 (0,0))/\OwnE bunE (J (M ⟨g',0,U⟩) bs.length cap) bs w1 from fun w1 hb=>⟨kA hB hb,hO.ks (pB (fun _=>False) hb) (fun _ _=>id)⟩)
 have hk':decide (0≤(i:Int)/\(i:Int) < (bs.length:Int))=true:=by simp[hi]
 have q0:(0:Int)≤(i:Int):=vB
 have q1:(i:Int) < (bs.length:Int):=vB
 have HN:=AS hne
 generalize hj:split ⟨y0,y1,y2,y3⟩ n o d=jn
 have HJ:=AS hj
 obtain⟨⟨s0,s1,s2,s3⟩,⟨r0,r1,r2,r3⟩⟩:=jn
 clear hO hB hf hv hb hne hj hlb hlt'
 go_enter Tryz.func123,Tryz.ntmps123
 go_wp2_with fail
 refine(memIs_blk B1.out i).mono ?_
 rintro e w1 ⟨rfl,rfl⟩
 rw[hk']
 go_wp2_with fail
 refine(split_any _ _ _ _ _ _ _ _).mono ?_
 rintro e w1 ⟨rfl,hbl⟩
 rw[HJ.out]
 simp only[bunV]
 have XS:=AS (kA XR.out hbl)
 have BB:=AS (show Below w.heap.size w w1 from(eA (fA _ _) _).trans (hbl.mono zB))
 have W1:=AS (HW.out w1 BB.out)
 have HS:=AS (show w.heap.size+1≤w1.heap.size from by have:=hbl.size;simpa using this)
 clear hbl c0 e0 e1 e2 e3 ez B1 XR HW
 go_upto_region 4 with fail
 have Y1:=AS (lA (nA w1 (O #[V I s0,aA s1,aA s2,V I s3] 45)) (O #[V I r0,aA r1,aA r2,V I r3] 45))
 have Y2:=AS (show((w1.alloc (O #[V I s0,aA s1,aA s2,V I s3] 45)).alloc (O #[V I r0,aA r1,aA r2,V I r3] 45)).heap[w1.heap.size+1]?=M (O #[V I r0,aA r1,aA r2,V I r3] 45) from by have:=nA (w1.alloc (O #[V I s0,aA s1,aA s2,V I s3] 45)) (O #[V I r0,aA r1,aA r2,V I r3] 45);simpa using this)
 have Y3:=AS (lA (lA XS.out (O #[V I s0,aA s1,aA s2,V I s3] 45)) (O #[V I r0,aA r1,aA r2,V I r3] 45))
 have hb2:Below w1.heap.size w1 ((w1.alloc (O #[V I s0,aA s1,aA s2,V I s3] 45)).alloc (O #[V I r0,aA r1,aA r2,V I r3] 45)):=eA (eA (fA _ _) _) _
 have Y4:=AS (qA (kA W1.out.1 hb2) (W1.out.2.ks (pB (fun _=>False) hb2) (fun _ _=>id)))
 have Y5:=AS (BB.out.trans (hb2.mono BB.out.size))
 clear hb2 XS W1
 generalize (w1.alloc (O #[V I s0,aA s1,aA s2,V I s3] 45)).alloc (O #[V I r0,aA r1,aA r2,V I r3] 45)=W at Y1 Y2 Y3 Y4 Y5 ⊢
 have C1:=AS (bun_cells Y4.out.2 hi)
 have c0':=cw Y4.out.1 0 (v:=J (M ⟨g',0,U⟩) bs.length cap)
 have f0:=C1.out.1.1
 have f1:=C1.out.1.2.1
 have f2:=C1.out.1.2.2.1
 have f3:=C1.out.1.2.2.2
 have fz:=C1.out.2
 have u0:=cw Y1.out 0 (v:=V I s0)
 have u1:=cw Y1.out 1 (v:=aA s1)
 have u2:=cw Y1.out 2 (v:=aA s2)
 have u3:=cw Y1.out 3 (v:=V I s3)
 have v0:=cw Y2.out 0 (v:=V I r0)
 have v1:=cw Y2.out 1 (v:=aA r1)
 have v2:=cw Y2.out 2 (v:=aA r2)
 have v3:=cw Y2.out 3 (v:=V I r3)
 have z0:=cw Y3.out 0 (v:=V I 0)
 have z1:=cw Y3.out 1 (v:=aA false)
 have z2:=cw Y3.out 2 (v:=aA false)
 have z3:=cw Y3.out 3 (v:=V I 0)
 have zz0:=jA Y3.out 0
 have zz1:=jA Y3.out 1
 have zz2:=jA Y3.out 2
 have zz3:=jA Y3.out 3
 have hz1:w.heap.size≠g':=by have:=HF.out.2.2.2;omega
 have hz2:w1.heap.size≠g':=by have:=HF.out.2.2.2;have:=HS.out;omega
 have hz3:w.heap.size≠w1.heap.size:=by have:=HS.out;omega
 have hz4:w1.heap.size+1≠g':=by have:=HF.out.2.2.2;have:=HS.out;omega
 go_region
 all_goals
  go_wp2
  refine yA (v:=bunV ⟨s0,s1,s2,s3⟩) (by simp[results,Tryz.results123,go_sem,bunV,z0,z1,z2,z3,hz1,hz2,hz3,Ne.symm hz1,Ne.symm hz2]) rfl ?_
  have M4:=memWrite (F:=fun x=>F x/\x < w.heap.size) Y4.out.1 Y4.out.2 hi ⟨r0,r1,r2,r3⟩ ⟨HF.out.1,HF.out.2.2.1⟩ ⟨HF.out.2.1,HF.out.2.2.2⟩ HN.out h6 (pB _ Y5.out)
  refine⟨rfl,M4.1.keep (sB (((((qB (fun x=>x=w.heap.size) _).set (g:=w.heap.size) (.inl rfl) 0 (V I s0)).set (g:=w.heap.size) (.inl rfl) 1 (aA s1)).set (g:=w.heap.size) (.inl rfl) 2 (aA s2)).set (g:=w.heap.size) (.inl rfl) 3 (V I s3))) (fun x _ h=>⟨.inl h.1,by have:=h.2;show ¬ x=w.heap.size;omega⟩),?_⟩
  exact sB (((((KS.mono M4.2 (fun x _ h=>h.1)).set (g:=w.heap.size) (.inr (pA _)) 0 (V I s0)).set (g:=w.heap.size) (.inr (pA _)) 1 (aA s1)).set (g:=w.heap.size) (.inr (pA _)) 2 (aA s2)).set (g:=w.heap.size) (.inr (pA _)) 3 (V I s3))
theorem memTake_any {bs:List Bun} {b:Nat} {F:Set_} {w:cA} (hM:MemAt bs b F w) (k n:Int) (o d:Bool):bB dA 123 #[bA (M ⟨b,0,U⟩),V I k,V I n,aA o,aA d] w (MemP (bunV (if memHas bs k then (split (memGet bs k) n o d).1 else b0)) (if memHas bs k then memSet bs k (split (memGet bs k) n o d).2 else bs) b F w):=by
 cases h1:memHas bs k with
 | false =>
  simp only[vA,if_false]
  exact memTake_no hM h1 n o d
 | true =>
  obtain⟨m,rfl,hn⟩:=memHas_nat h1
  rw[show memGet bs m=bs.getD m b0 by simp[memGet,h1]]
  simp only[if_true,memSet,h1,Int.toNat_natCast]
  exact memTake_yes hM hn n o d
theorem memNew_any (nb tk:Int) (w:cA):bB dA 46 #[V I nb,V I tk] w fun e w'=>∃ b,e=.returned (bA (M ⟨b,0,U⟩))/\MemAt (uA (clamp nb 0 64).toNat (full tk 0)) b (nw w) w'/\Below w.heap.size w w':=by
 generalize hn:(clamp nb 0 64).toNat=n
 have hc:clamp nb 0 64=(n:Int)/\n≤64:=by unfold clamp at hn ⊢;omega
 have HC:=AS hc.1
 have hn64:=hc.2
 have hmk:=run_makeE (E:=bunE) n (by show _ * 24≤_;omega) w
 have OM:=AS (ownE_made (E:=bunE) n (by show _ * 24≤_;omega) w)
 have BA:=AS (eA (fA w.heap.size w) (Obj.cells (flat bunE (uA n bunE.d)).toArray bunE.T))
 clear hc hn
 simp only[show bunE.S=38 from rfl] at hmk
 generalize (Obj.cells (flat bunE (uA n bunE.d)).toArray bunE.T)=ob at *
 go_enter Tryz.func46,Tryz.ntmps46
 go_wp2_with fail
 refine(clamp_any _ _ _ _).mono ?_
 rintro e w1 ⟨rfl,rfl⟩
 rw[HC.out]
 go_wp2_with fail
 have Y0:=AS (show((w.alloc ob).alloc (O #[J (M ⟨w.heap.size,0,U⟩) n n] 168)).heap[w.heap.size+1]?=M (O #[J (M ⟨w.heap.size,0,U⟩) n n] 168) from by have:=nA (w.alloc ob) (O #[J (M ⟨w.heap.size,0,U⟩) n n] 168);simpa using this)
 have O0:=AS (OM.out.ks (pB (fun _=>False) (eA (fA _ _) (O #[J (M ⟨w.heap.size,0,U⟩) n n] 168))) (fun _ _=>id))
 have B0:=AS (eA BA.out (O #[J (M ⟨w.heap.size,0,U⟩) n n] 168))
 generalize (w.alloc ob).alloc (O #[J (M ⟨w.heap.size,0,U⟩) n n] 168)=W0 at Y0 O0 B0 ⊢
 clear OM BA hmk
 go_loopw [6,17] (fun v6 v17 wr=>∃ (i:Nat),v17=V I i/\i≤n/\Aside0 (wr.heap[w.heap.size+1]?=M (O #[J (M ⟨w.heap.size,0,U⟩) n n] 168)/\OwnE bunE (J (M ⟨w.heap.size,0,U⟩) n n) (uA i (full tk 0) ++ uA (n - i) b0) wr/\Below w.heap.size w wr)) (fun _ v17 _=>65 - (intOf v17).toNat)
 case atStart=>exact⟨0,rfl,vB,⟨Y0.out,O0.out,B0.out⟩⟩
 case round =>
  obtain⟨i,rfl,hi,R⟩:=hrel
  by_cases c1:i < n
  ·have hl:(uA i (full tk 0) ++ uA (n - i) b0).length=n:=by simp;omega
   have OB:Aside0 (OwnE bunE (J (M ⟨w.heap.size,0,U⟩) (uA i (full tk 0) ++ uA (n - i) b0).length n) (uA i (full tk 0) ++ uA (n - i) b0) wr):=⟨by rw[hl];exact R.out.2.1⟩
   have HL:=AS hl
   clear hl
   have q1:(i:Int) < (n:Int):=vB
   have q0:(0:Int)≤(i:Int):=vB
   have c0:=cw R.out.1 0 (v:=J (M ⟨w.heap.size,0,U⟩) n n)
   generalize hfu:full tk 0=fu at *
   have HFU:=AS hfu
   obtain⟨f0,f1,f2,f3⟩:=fu
   clear hfu
   go_wp2_with fail
   go_region_with (go_at_call 74;refine(full_any _ _ _).mono ?_;rintro e w1 ⟨rfl,hbl⟩;rw[HFU.out];simp only[bunV];have BB:=AS (show Below wr.heap.size wr w1 from(iA (fA _ _)).trans (hbl.mono (pA _)));clear hbl;have W1:=AS (kA R.out.1 BB.out);have O1:=AS (OB.out.ks (pB (fun _=>False) BB.out) (fun _ _=>id));have C1:=AS (bun_cells O1.out (by have:=HL.out;omega:i < _));have c0':w1.cell? ⟨w.heap.size+1,0,U⟩=M (J (M ⟨w.heap.size,0,U⟩) n n):=cw W1.out 0;have g0:=C1.out.1.1;have g1:=C1.out.1.2.1;have g2:=C1.out.1.2.2.1;have g3:=C1.out.1.2.2.2;have gz:=C1.out.2)
   all_goals
    go_wp2
    go_roundw
    case rel =>
     refine⟨i+1,by go_num,vB,⟨?_,?_,?_⟩⟩
     ·exact blk_far (blk_far (blk_far (blk_far W1.out (p:=⟨w.heap.size,_,U⟩) zB _) (p:=⟨w.heap.size,_,U⟩) zB _) (p:=⟨w.heap.size,_,U⟩) zB _) (p:=⟨w.heap.size,_,U⟩) zB _
     ·have hs:=bun_set O1.out (by have:=HL.out;omega:i < _) ⟨f0,f1,f2,f3⟩
      rw[HL.out] at hs
      have e1:(uA i (⟨f0,f1,f2,f3⟩:Bun) ++ uA (n - i) b0).set i ⟨f0,f1,f2,f3⟩=uA (i+1) ⟨f0,f1,f2,f3⟩ ++ uA (n - (i+1)) b0:=by
       rw[List.set_append_right _ _ zB]
       rw[show n - i=(n - (i+1))+1 by omega,List.replicate_succ]
       simp[List.replicate_succ']
      rw[e1] at hs
      exact hs
     ·have hb:=R.out.2.2.trans (BB.out.mono R.out.2.2.size)
      exact(((hb.setCell (p:=⟨_,_,U⟩) (pA _) _).setCell (p:=⟨_,_,U⟩) (pA _) _).setCell (p:=⟨_,_,U⟩) (pA _) _).setCell (p:=⟨_,_,U⟩) (pA _) _
    case measure=>simp[intOf];omega
  ·have hin:i=n:=vB
   subst hin
   go_wp2
   go_ret
   refine⟨_,rfl,⟨_,R.out.1,by simpa using R.out.2.1,by simp[foot_slice],by show _≤_;omega,by intro x hx;simp[foot_slice] at hx;subst hx;exact pA _,by simpa using hn64⟩,R.out.2.2⟩
end Go.Proofs.YtiebppkhaiofeaaGreat.K
namespace Go.Proofs.YtiebppkhaiofeaaGreat.K
open Go.RowKit Go.Proofs.YtiebppkhaiofeaaGreatW.PrintWords Go.Proofs.YtiebppkhaiofeaaGreat.S
attribute [local go_sem] World.cell?_alloc_some
open Go.ChangeMaps Go.MapKept
def Stays (P:(Nat->Nat)->cA->Prop) (m:Nat):Prop:=∀ (K K':Nat->Nat) (G:Set_) (w w':cA),P K w->KS G w w'->(∀ x,x < w.heap.size->K x≤m->K' x=K x/\¬ G x)->P K' w'
def GX (P:(Nat->Nat)->cA->Prop) (m:Nat) (K:Nat->Nat) (w:cA) (bx:List (Nat×Obj)) (w':cA):Prop:=∃ K',(∀ x,x < w.heap.size->K' x=K x)/\P K' w'/\KS (fun x=>K x≤m) w w'/\(∀ q∈bx,m < K' q.1/\w.heap.size≤q.1/\w'.heap[q.1]?=M q.2)/\(bx.map (·.1)).Nodup
def GP (v:Value) (P':(Nat->Nat)->cA->Prop) (m:Nat) (K:Nat->Nat) (w:cA) (e:Ending) (w':cA):Prop:=e=.returned v/\∃ K',(∀ x,x < w.heap.size->K' x=K x)/\P' K' w'/\KS (fun x=>K x≤m) w w'
section
variable {P P':(Nat->Nat)->cA->Prop} {m:Nat} {K:Nat->Nat} {w w1 w2:cA} {bx:List (Nat×Obj)}
theorem GX.refl (h:P K w):GX P m K w [] w:=⟨K,fun _ _=>rfl,h,qB _ w,(fun q hq=>by cases hq),List.nodup_nil⟩
theorem GX.at_ (h:GX P m K w bx w1) {g:Nat} {ob:Obj} (hq:(g,ob)∈bx):w1.heap[g]?=M ob:=by obtain⟨K1,-,-,-,h4,-⟩:=h;exact(h4 _ hq).2.2
theorem GX.have_ {Q:Prop} (h:GX P m K w bx w1) (hs:∀ K1,P K1 w1->Q):Q:=by obtain⟨K1,-,h,-⟩:=h;exact hs K1 h
theorem GX.new (hP:Stays P m) (h:GX P m K w bx w1) (hb:Below w1.heap.size w1 w2) {g:Nat} {ob:Obj} (hg:w1.heap.size≤g) (ho:w2.heap[g]?=M ob):GX P m K w ((g,ob) :: bx) w2:=by
 obtain⟨K1,ha,hN,hk,hB,hD⟩:=h
 have hsz:=hk.size
 refine⟨rec_ K1 w1 (m+1),fun x hx=>(jB vB).trans (ha x hx),hP _ _ (fun _=>False) _ _ hN (pB _ hb) (fun x hx _=>⟨jB hx,id⟩),hk.trans (pB (fun _=>False) hb) (fun x _ h=>h.elim),fun q hq=>?_,List.nodup_cons.2 ⟨fun hm=>?_,hD⟩⟩
 ·rcases List.mem_cons.1 hq with rfl | hq
  ·exact⟨by simp only;rw[rec_new hg];omega,by show _≤g;omega,ho⟩
  ·have hlt:=eB (hB q hq).2.2
   exact⟨by rw[jB hlt];exact(hB q hq).1,(hB q hq).2.1,(hb.block _ hlt).trans (hB q hq).2.2⟩
 ·obtain⟨q,hq,e⟩:=List.mem_map.1 hm
  have hlt:=eB (hB q hq).2.2
  have e':q.1=g:=e
  omega
theorem GX.tail {q:Nat×Obj} (h:GX P m K w (q :: bx) w1):GX P m K w bx w1:=by
 obtain⟨K1,ha,hN,hk,hB,hD⟩:=h
 exact⟨K1,ha,hN,hk,(fun x hx=>hB x (kB _ hx)),(List.nodup_cons.1 hD).2⟩
theorem GX.below (hP:Stays P m) (h:GX P m K w bx w1) (hb:Below w1.heap.size w1 w2):GX P m K w bx w2:=by
 obtain⟨K1,ha,hN,hk,hB,hD⟩:=h
 have hsz:=hk.size
 refine⟨rec_ K1 w1 (m+1),fun x hx=>(jB vB).trans (ha x hx),hP _ _ (fun _=>False) _ _ hN (pB _ hb) (fun x hx _=>⟨jB hx,id⟩),hk.trans (pB (fun _=>False) hb) (fun x _ h=>h.elim),fun q hq=>?_,hD⟩
 have hlt:=eB (hB q hq).2.2
 exact⟨by rw[jB hlt];exact(hB q hq).1,(hB q hq).2.1,(hb.block _ hlt).trans (hB q hq).2.2⟩
theorem GX.box (hP:Stays P m) (h:GX P m K w bx w1) (ob:Obj):GX P m K w ((w1.heap.size,ob) :: bx) (w1.alloc ob):=GX.new hP h (eA (fA _ _) ob) (pA _) (nA w1 ob)
theorem GX.drew (hP:Stays P m) (h:GX P m K w bx w1):GX P m K w bx w1.drew:=GX.below hP h (iA (fA _ _))
theorem GX.via (h:GX P m K w bx w1) {v:Value} {e:Ending} (hs:∀ K1,P K1 w1->GP v P' m K1 w1 e w2):e=.returned v/\GX P' m K w bx w2:=by
 obtain⟨K1,ha,hN,hk,hB,hD⟩:=h
 obtain⟨he,K2,hb,hN2,hk2⟩:=hs K1 hN
 have hsz:=hk.size
 exact⟨he,K2,fun x hx=>(hb x vB).trans (ha x hx),hN2,hk.trans hk2 (fun x hx h=>by rw[<- ha x hx];exact h),fun q hq=>⟨by rw[hb _ (eB (hB q hq).2.2)];exact(hB q hq).1,(hB q hq).2.1,hk2.at_ (hB q hq).2.2 (by have:=(hB q hq).1;show ¬ K1 q.1≤m;omega)⟩,hD⟩
theorem GX.call {f:Nat} {args:Array Value} {v:Value} (h:GX P m K w bx w1) (hs:∀ K1,P K1 w1->bB dA f args w1 (GP v P' m K1 w1)):bB dA f args w1 (fun e w'=>e=.returned v/\GX P' m K w bx w'):=by
 have h0:=h
 obtain⟨K1,ha,hN,hk,hB,hD⟩:=h
 refine(hs K1 hN).mono ?_
 rintro e w2 ⟨rfl,K2,hb,hN2,hk2⟩
 have hsz:=hk.size
 exact⟨rfl,K2,fun x hx=>(hb x vB).trans (ha x hx),hN2,hk.trans hk2 (fun x hx h=>by rw[<- ha x hx];exact h),fun q hq=>⟨by rw[hb _ (eB (hB q hq).2.2)];exact(hB q hq).1,(hB q hq).2.1,hk2.at_ (hB q hq).2.2 (by have:=(hB q hq).1;show ¬ K1 q.1≤m;omega)⟩,hD⟩
theorem GX.put (hP:Stays P m) {g:Nat} {ob ob':Obj} (h:GX P m K w ((g,ob) :: bx) w1) (hk2:KS (fun x=>x=g) w1 w2) (ho:w2.heap[g]?=M ob'):GX P m K w ((g,ob') :: bx) w2:=by
 obtain⟨K1,ha,hN,hk,hB,hD⟩:=h
 have hd:∀ q∈bx,q.1≠g:=fun q hq e=>(List.nodup_cons.1 hD).1 (List.mem_map.2 ⟨q,hq,e⟩)
 have hsz:=hk.size
 have hg7:=(hB _ (wA)).1
 have hgw:=(hB _ (wA)).2.1
 simp only at hg7 hgw
 refine⟨rec_ K1 w1 (m+1),fun x hx=>(jB vB).trans (ha x hx),hP _ _ _ _ _ hN hk2 (fun x hx h5=>⟨jB hx,fun e=>?_⟩),⟨hk2.1.trans hk.1,hk2.2.1.trans hk.2.1,hk2.2.2.1.trans hk.2.2.1,lB hsz hk2.size,fun i hi hF=>(hk2.2.2.2.2 i vB (fun e=>by have e':i=g:=e;omega)).trans (hk.2.2.2.2 i hi hF)⟩,fun q hq=>?_,hD⟩
 ·have e':x=g:=e
  rw[e'] at h5;omega
 ·rcases List.mem_cons.1 hq with rfl | hq
  ·exact⟨by simp only;rw[jB (eB (hB _ (wA)).2.2)];exact hg7,hgw,ho⟩
  ·have hlt:=eB (hB q (kB _ hq)).2.2
   exact⟨by rw[jB hlt];exact(hB q (kB _ hq)).1,(hB q (kB _ hq)).2.1,hk2.at_ (hB q (kB _ hq)).2.2 (hd q hq)⟩
theorem GX.pass (hP:Stays P m) {g:Nat} {ob:Obj} (h:GX P m K w ((g,ob) :: bx) w1) (hk2:KS (fun x=>x=g) w1 w2):GX P m K w bx w2:=by
 have hlt:=eB (h.at_ (wA))
 have hlt2:=hk2.size
 obtain⟨ob',ho⟩:∃ ob',w2.heap[g]?=M ob':=⟨w2.heap[g],Array.getElem?_eq_getElem vB⟩
 exact(GX.put hP h hk2 ho).tail
theorem GX.row (hP:Stays P m) {α:Type} {E:El α} {v:Value} {xs:List α} (h:GX P m K w bx w1) (hb:Below w1.heap.size w1 w2) (hO:OwnE E v xs w2) (hf:∀ x∈foot v,w1.heap.size≤x):∃ bx',GX P m K w (bx' ++ bx) w2/\(∀ x∈foot v,∃ ob,(x,ob)∈bx'):=by
 rcases hO.cases with ⟨rfl,rfl⟩ | ⟨g,cap,cur,rfl,hg,-⟩
 ·exact⟨[],GX.below hP h hb,fun x hx=>by simp[foot_nil] at hx⟩
 ·exact⟨[(g,O cur E.T (0,0))],GX.new hP h hb (hf g (by simp[foot_slice])) hg,fun x hx=>⟨_,by simp[foot_slice] at hx;subst hx;exact List.mem_singleton.2 rfl⟩⟩
theorem GX.rowAt {α:Type} {E:El α} {v:Value} {xs:List α} {bx':List (Nat×Obj)} (hO:OwnE E v xs w1) (hx:∀ x∈foot v,∃ ob,(x,ob)∈bx') (h1:GX P m K w bx w1) (h2:GX P' m K w bx w2) (hs:∀ q∈bx',q∈bx):OwnE E v xs w2 :=
 hO.at_ fun b hb=>by
  obtain⟨ob,hm⟩:=hx b hb
  rw[h2.at_ (hs _ hm),h1.at_ (hs _ hm)]
end
def homeC (c:Cfg) (bm bq:Nat):Array Value:=#[V I c.nodes,V I c.blocks,V I c.tokens,V I c.sets,V I c.ways,V I c.cap,V I c.wait,V I c.tries,V I c.policy,bA (M ⟨bm,0,U⟩),bA (M ⟨bq,0,U⟩)]
def HomeK (c:Cfg) (h:S.Home) (b bm bq:Nat) (K:Nat->Nat) (w:cA):Prop:=w.heap[b]?=M (O (homeC c bm bq) 124 (0,0))/\K b=0/\MemAt h.mem bm (fun x=>K x=1) w/\ArbX h.queue bq (fun x=>K x=2) w
theorem homeStays (c:Cfg) (h:S.Home) (b bm bq:Nat):Stays (HomeK c h b bm bq) 2:=fun K K' G w w' hH hk hs=>by
 obtain⟨h1,h2,h3,h4⟩:=hH
 have e1:=hs b (eB h1) vB
 exact⟨hk.at_ h1 e1.2,by rw[e1.1];exact h2,h3.keep hk (fun x hx hF=>by have hF':K x=1:=hF;have:=hs x hx vB;exact⟨by show K' x=1;omega,this.2⟩),h4.keep hk (fun x hx hF=>by have hF':K x=2:=hF;have:=hs x hx vB;exact⟨by show K' x=2;omega,this.2⟩)⟩
section
variable {c:Cfg} {h:S.Home} {b bm bq:Nat} {K:Nat->Nat} {w w':cA} {e:Ending} {v:Value}
theorem HomeK.memP (hH:HomeK c h b bm bq K w) {bs:List Bun} (hp:MemP v bs bm (fun x=>K x=1) w e w'):GP v (HomeK c { h with mem:=bs } b bm bq) 2 K w e w':=by
 obtain⟨h1,h2,h3,h4⟩:=hH
 obtain⟨rfl,hM,hk⟩:=hp
 have e1:=jB (K:=K) (k:=1) (eB h1)
 refine⟨rfl,rec_ K w 1,fun x hx=>jB hx,⟨hk.at_ h1 (by show ¬ _=_;omega),vB,hM.keep (qB (fun _=>False) w') (fun x hx hF=>⟨?_,id⟩),h4.keep hk (fun x hx hF=>?_)⟩,hk.mono (fun x _ h=>by have h':K x=1:=h;show K x≤2;omega)⟩
 ·show rec_ K w 1 x=1
  rcases hF with hF | hF
  ·by_cases hl:x < w.heap.size
   ·rw[jB hl];exact hF
   ·rw[rec_new vB]
  ·exact rec_new hF
 ·have hF':K x=2:=hF
  exact⟨by show rec_ K w 1 x=2;rw[jB hx];exact hF',by show ¬ _=_;omega⟩
theorem HomeK.arbP (hH:HomeK c h b bm bq K w) {a:Arb} (hp:ArbP v a bq (fun x=>K x=2) w e w'):GP v (HomeK c { h with queue:=a } b bm bq) 2 K w e w':=by
 obtain⟨h1,h2,h3,h4⟩:=hH
 obtain⟨rfl,hM,hk⟩:=hp
 have e1:=jB (K:=K) (k:=2) (eB h1)
 refine⟨rfl,rec_ K w 2,fun x hx=>jB hx,⟨hk.at_ h1 (by show ¬ _=_;omega),vB,h3.keep hk (fun x hx hF=>?_),hM.keep (qB (fun _=>False) w') (fun x hx hF=>⟨?_,id⟩)⟩,hk.mono (fun x _ h=>by have h':K x=2:=h;show K x≤2;omega)⟩
 ·have hF':K x=1:=hF
  exact⟨by show rec_ K w 2 x=1;rw[jB hx];exact hF',by show ¬ _=_;omega⟩
 ·show rec_ K w 2 x=2
  rcases hF with hF | hF
  ·by_cases hl:x < w.heap.size
   ·rw[jB hl];exact hF
   ·rw[rec_new vB]
  ·exact rec_new hF
theorem is_mem (h:S.Home) (k:Int):h.is k=memHas h.mem k:=by
 unfold Home.is memHas
 rw[Bool.eq_iff_iff];simp
theorem get_mem (h:S.Home) (k:Int):h.get k=memGet h.mem k:=by unfold Home.get memGet;rw[is_mem]
theorem take_mem (h:S.Home) (k n:Int) (o d:Bool):h.memTake k n o d=({ h with mem:=if memHas h.mem k then memSet h.mem k (split (memGet h.mem k) n o d).2 else h.mem },if memHas h.mem k then (split (memGet h.mem k) n o d).1 else b0):=by
 unfold Home.memTake
 rw[is_mem,get_mem]
 cases hq:memHas h.mem k
 ·rfl
 ·simp[memSet,hq]
theorem put_mem (h:S.Home) (k:Int) (t:Bun):h.put k t={ h with mem:=memSet h.mem k (join (memGet h.mem k) t)}:=by
 unfold Home.put memSet
 rw[is_mem,get_mem]
 cases hq:memHas h.mem k <;> simp
theorem HomeK.take (hH:HomeK c h b bm bq K w) (k n:Int) (o d:Bool):bB dA 123 #[bA (M ⟨bm,0,U⟩),V I k,V I n,aA o,aA d] w (GP (bunV (h.memTake k n o d).2) (HomeK c (h.memTake k n o d).1 b bm bq) 2 K w):=by
 rw[take_mem]
 exact(memTake_any hH.2.2.1 k n o d).mono fun _ _ hp=>hH.memP hp
theorem HomeK.mput (hH:HomeK c h b bm bq K w) (k:Int) (t:Bun):bB dA 120 #[bA (M ⟨bm,0,U⟩),V I k,bunV t] w (GP (aA (memHas h.mem k)) (HomeK c (h.put k t) b bm bq) 2 K w):=by
 rw[put_mem]
 exact(memPut_any hH.2.2.1 k t).mono fun _ _ hp=>hH.memP hp
theorem HomeK.ask (hH:HomeK c h b bm bq K w) (k n:Int) (hql:∀ r∈h.queue.rows,r.queue.length≤1000000):bB dA 125 #[bA (M ⟨bq,0,U⟩),V I k,V I n] w (GP (actO (h.queue.ask k n).2) (HomeK c { h with queue:=(h.queue.ask k n).1 } b bm bq) 2 K w) :=
 (arbAsk_any hH.2.2.2 k n hql).mono fun _ _ hp=>hH.arbP hp
theorem HomeK.ack (hH:HomeK c h b bm bq K w) (k s n:Int):bB dA 128 #[bA (M ⟨bq,0,U⟩),V I k,V I s,V I n] w (GP (actO (h.queue.ack k s n).2) (HomeK c { h with queue:=(h.queue.ack k s n).1 } b bm bq) 2 K w) :=
 (arbAck_any hH.2.2.2 k s n).mono fun _ _ hp=>hH.arbP hp
theorem HomeK.done (hH:HomeK c h b bm bq K w) (k s:Int):bB dA 126 #[bA (M ⟨bq,0,U⟩),V I k,V I s] w (GP (aA (h.queue.done k s).2) (HomeK c { h with queue:=(h.queue.done k s).1 } b bm bq) 2 K w) :=
 (arbDone_any hH.2.2.2 k s).mono fun _ _ hp=>hH.arbP hp
end
theorem homeTokens_any {c:Cfg} {b bm bq:Nat} {w:cA} (hb:w.heap[b]?=M (O (homeC c bm bq) 124 (0,0))) (tt k:Int) (y:Bun):bB dA 119 #[bA (M ⟨b,0,U⟩),V I tt,V I k,bunV y] w (NewRow letE (Home.tokens c tt k y) w):=by
 obtain⟨c0,oo,hh,dd⟩:=y
 have BB:=AS (nA w (O #[V I c0,aA oo,aA hh,V I dd] 45))
 have HB:=AS (lA hb (O #[V I c0,aA oo,aA hh,V I dd] 45))
 have B1:=AS (eA (fA w.heap.size w) (O #[V I c0,aA oo,aA hh,V I dd] 45))
 have hblt:=eB hb
 show bB dA 119 #[bA (M ⟨b,0,U⟩),V I tt,V I k,.agg #[V I c0,aA oo,aA hh,V I dd]] w (NewRow letE (if c0 < 1 then [] else [tokensL c.nodes tt k ⟨c0,oo,hh,dd⟩]) w)
 clear hb
 go_enter Tryz.func119,Tryz.ntmps119
 go_upto_region 1 with fail
 generalize hg:w.heap.size=g at *
 generalize w.alloc (O #[V I c0,aA oo,aA hh,V I dd] 45)=W at BB HB B1 ⊢
 have y0:=cw BB.out 0 (v:=V I c0)
 have y1:=cw BB.out 1 (v:=aA oo)
 have y2:=cw BB.out 2 (v:=aA hh)
 have y3:=cw BB.out 3 (v:=V I dd)
 have n0:=cw HB.out 0 (v:=V I c.nodes)
 by_cases q:c0 < 1
 ·rw[if_pos q]
  go_wp2
  go_ret
  exact⟨_,rfl,OwnE.nil _,by simp[foot_nil],by rw[hg];exact B1.out⟩
 ·rw[if_neg q]
  go_upto_region 3 with fail
  have KEEP:=AS (show ∀ x,Below W.heap.size W x->(x.cell? ⟨b,0,U⟩=M (V I c.nodes)/\x.cell? ⟨g,0,U⟩=M (V I c0)/\x.cell? ⟨g,1,U⟩=M (aA oo)/\x.cell? ⟨g,2,U⟩=M (aA hh)/\x.cell? ⟨g,3,U⟩=M (V I dd)) from fun x hx=>⟨cw (kA HB.out hx) 0,cw (kA BB.out hx) 0,cw (kA BB.out hx) 1,cw (kA BB.out hx) 2,cw (kA BB.out hx) 3⟩)
  go_region_held3 (fun x=>x.cell? ⟨b,0,U⟩=M (V I c.nodes)/\x.cell? ⟨g,0,U⟩=M (V I c0)/\x.cell? ⟨g,1,U⟩=M (aA oo)/\x.cell? ⟨g,2,U⟩=M (aA hh)/\x.cell? ⟨g,3,U⟩=M (V I dd)) ((refine KEEP.out _ ?_;(repeat (with_reducible first | exact fA _ _ | exact B3.out | apply eA | apply iA)))) ((first | (go_at_call 130;refine(tokens_any _ _ _ _ _ _ _ _).mono ?_;rintro e w3 ⟨rfl,hb3⟩;have B3:=AS (show Below W.heap.size W w3 from(iA (fA _ _)).trans (hb3.mono (pA _)));clear hb3;simp only[letV,tokensL])))
  all_goals
   go_wp2
   go_ret
   refine⟨_,rfl,OwnE.mk (E:=letE) (xs:=[tokensL c.nodes tt k ⟨c0,oo,hh,dd⟩]) (nA w3 _) zB yB rfl (by rfl),?_,?_⟩
   ·intro x hx
    simp[foot_slice] at hx
    subst hx
    have:=B1.out.size;have:=B3.out.size;omega
   ·have hh3:=B1.out.trans ((eA B3.out (O #[V I 1,V I c.nodes,V I tt,V I k,V I 0,V I 0,aA false,V I c0,aA oo,aA hh,V I dd] 47)).mono (by have:=B1.out.size;omega))
    rw[hg];exact hh3
def HRet (c:Cfg) (h:S.Home) (ls:List Let) (b bm bq:Nat) (K:Nat->Nat) (w:cA) (e:Ending) (w':cA):Prop :=
 ∃ v K',e=.returned v/\(∀ x,x < w.heap.size->K' x=K x)/\HomeK c h b bm bq K' w'/\OwnE letE v ls w'/\(∀ x∈foot v,w.heap.size≤x/\2 < K' x)/\KS (fun x=>K x≤2) w w'
section
variable {c:Cfg} {h:S.Home} {b bm bq:Nat} {K:Nat->Nat} {w w1 w2:cA} {bx bx':List (Nat×Obj)} {v:Value} {ls:List Let}
theorem GX.blkH (h1:GX (HomeK c h b bm bq) 2 K w bx w1):w1.heap[b]?=M (O (homeC c bm bq) 124 (0,0)):=h1.have_ fun K1 hh=>hh.1
theorem HRet.app {v':Value} (h1:GX (HomeK c h b bm bq) 2 K w bx w1) (hx:∀ x∈foot v,∃ ob,(x,ob)∈bx) (hk:Keeps (foot v) w1 w2) (hO:OwnE letE v' ls w2) (hf:foot v'=foot v∨foot v'=[w1.heap.size]):HRet c h ls b bm bq K w (.returned v') w2:=by
 obtain⟨K1,ha,hN,hk1,hB,hD⟩:=h1
 have hks:=KS.keeps hk
 have hsz:=hk1.size
 have hcol:∀ x,x∈foot v->x < w1.heap.size/\2 < K1 x/\w.heap.size≤x:=fun x hxf=>by
  obtain⟨ob,hm⟩:=hx x hxf
  exact⟨eB (hB _ hm).2.2,(hB _ hm).1,(hB _ hm).2.1⟩
 refine⟨v',rec_ K1 w1 3,rfl,fun x hx'=>(jB vB).trans (ha x hx'),homeStays c h b bm bq _ _ _ _ _ hN hks (fun x hx' h2=>⟨jB hx',fun e=>by have:=(hcol x e).2.1;omega⟩),hO,fun x hx'=>?_,hk1.trans hks (fun x hx' e=>by have:=(hcol x e).2.2;omega)⟩
 rcases hf with e | e
 ·rw[e] at hx'
  have:=hcol x hx'
  exact⟨this.2.2,by rw[jB this.1];exact this.2.1⟩
 ·rw[e] at hx'
  simp only[tA] at hx'
  subst hx'
  exact⟨vB,by rw[rec_new (pA _)];omega⟩
theorem GX.apart (h1:GX (HomeK c h b bm bq) 2 K w bx w1) {x:Nat} {ob:Obj} (hx:(x,ob)∈bx):b≠x:=fun e=>by
 obtain⟨K1,ha,hN,hk1,hB,hD⟩:=h1
 have h2:=(hB _ hx).1
 have h0:=hN.2.1
 simp only at h2
 rw[<- e] at h2;omega
theorem HRet.none (h1:GX (HomeK c h b bm bq) 2 K w bx w1):HRet c h [] b bm bq K w (.returned (J U 0 0)) w1:=by
 obtain⟨K1,ha,hN,hk,hB,hD⟩:=h1
 exact⟨_,K1,rfl,ha,hN,OwnE.nil _,by simp[foot_nil],hk⟩
theorem HRet.row (h1:GX (HomeK c h b bm bq) 2 K w bx w1) (hO:OwnE letE v ls w1) (hx:∀ x∈foot v,∃ ob,(x,ob)∈bx):HRet c h ls b bm bq K w (.returned v) w1:=by
 obtain⟨K1,ha,hN,hk,hB,hD⟩:=h1
 exact⟨_,K1,rfl,ha,hN,hO,fun x hf=>by obtain⟨ob,hm⟩:=hx x hf;exact⟨(hB _ hm).2.1,(hB _ hm).1⟩,hk⟩
theorem HRet.new (h1:GX (HomeK c h b bm bq) 2 K w bx w1) (hb:Below w1.heap.size w1 w2) (hO:OwnE letE v ls w2) (hf:∀ x∈foot v,w1.heap.size≤x):HRet c h ls b bm bq K w (.returned v) w2:=by
 obtain⟨bx',h2,hx⟩:=GX.row (homeStays c h b bm bq) h1 hb hO hf
 exact HRet.row h2 hO (fun x hq=>by obtain⟨ob,hm⟩:=hx x hq;exact⟨ob,List.mem_append_left _ hm⟩)
end
end Go.Proofs.YtiebppkhaiofeaaGreat.K
