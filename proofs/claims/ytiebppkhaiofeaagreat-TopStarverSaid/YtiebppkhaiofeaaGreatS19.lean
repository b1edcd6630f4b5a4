/- Part of the proof of TopStarver: what functions of the program do. -/
import Derived.Deep.MidRow
import Derived.Laws.StructEq
import Derived.Test.YtiebppkhaiofeaaGreatS18
set_option maxHeartbeats 4000000
set_option maxRecDepth 100000
set_option linter.unusedVariables false
set_option linter.unusedSimpArgs false
namespace Go.Proofs.YtiebppkhaiofeaaGreat.K
open Go.RowKit Go.Proofs.YtiebppkhaiofeaaGreatW.PrintWords Go.Proofs.YtiebppkhaiofeaaGreat.S
attribute [local go_sem] World.cell?_alloc_some
open Go.ChangeMaps Go.MapKept
theorem quOk_fresh {F:Set_} {b g:Nat} {v:Value} {xs:List Int} {w3:Go.World} (hO:OwnE intE v xs w3) (hf:∀ x∈foot v,F x/\x≠b/\x≠g) (j:Nat) (u:Value):QuOk F b g v xs (w3.setCell ⟨g,j,none⟩ u):=by
 have hO':OwnE intE v xs (w3.setCell ⟨g,j,none⟩ u):=hO.at_ fun x hx=>Below.heap_setCell w3 ⟨g,j,none⟩ u x (hf x hx).2.2
 obtain⟨A,c,rfl,hr,h1,h2,h3⟩:=hO'.row
 refine⟨A,c,rfl,hr,h1,h2,h3,fun ad e=>?_⟩
 subst e
 rcases hO'.cases with ⟨e,_⟩ | ⟨g',cap,cur,e,hg,_⟩
 ·simp at e
 ·simp at e
  obtain⟨rfl,rfl⟩:=e
  have:=hf g' (by simp[foot_slice])
  exact⟨this.1,this.2.1,this.2.2,rfl,blk_lt hg⟩
theorem arb_is (a:Arb) {rs:List ARowR} (h:rs.length=a.rows.length) (k n:Int):(decide (k≥0) && decide (k < rs.length) && decide (n≥0) && decide (n < a.nodes))=a.is k n:=by rw[h];rfl
theorem arbAsk_any {a:Arb} {b:Nat} {F:Set_} {w:Go.World} (hA:ArbX a b F w) (k n:Int) (hql:∀ r∈a.rows,r.queue.length≤1000000):Calls Tryz.prog 125 #[.pointer (some ⟨b,0,none⟩),.int .i64 k,.int .i64 n] w (ArbP (actO (a.ask k n).2) (a.ask k n).1 b F w):=by
 have AB:=AS hA
 obtain⟨g,cap,rs,h⟩:=hA
 have hlen:=h.len
 have hask:a.ask k n=if a.is k n then (a.setRow k { a.row k with queue:=(a.row k).queue ++ [n]}).next k else (a,none):=rfl
 rw[hask]
 have hB0:Below w.heap.size w (w.alloc (.cells #[.int .i64 0,.int .i64 0,.int .i64 0] 55)):=below_alloc (Below.refl _ _) _
 have HB:=AS (blk_alloc h.1 (.cells #[.int .i64 0,.int .i64 0,.int .i64 0] 55))
 have his:=arb_is a hlen k n
 cases hi:a.is k n
 case false =>
  rw[hi] at his
  simp only[Bool.false_eq_true,if_false]
  clear hask hi h hlen hB0 hql
  go_enter Tryz.func125,Tryz.ntmps125
  go_wp2_with fail
  refine(arbIs_any HB.out k n).mono ?_
  rintro e w1 ⟨rfl,rfl⟩
  rw[his]
  go_wp2
  exact bodyPost_ret (v:=actO none) (by simp[results,Tryz.results125,go_sem,actO,actV,act0]) rfl ⟨rfl,(AB.out).keep (KS.below (fun _=>False) (by repeat (first | with_reducible exact Below.refl _ _ | with_reducible apply below_alloc | with_reducible refine Below.setCell ?_ (by dsimp only;omega) _))) (fun x _ h=>⟨.inl h,id⟩),KS.below _ (by repeat (first | with_reducible exact Below.refl _ _ | with_reducible apply below_alloc | with_reducible refine Below.setCell ?_ (by dsimp only;omega) _))⟩
 case true =>
  rw[hi] at his
  simp only[if_true]
  obtain⟨i,rfl,hil⟩:∃ i:Nat,k=i/\i < rs.length:=by
   unfold Arb.is at hi
   simp at hi
   exact⟨k.toNat,by omega,by omega⟩
  have hHW:ArbB a b g cap rs (fun x=>F x/\x < w.heap.size) (w.alloc (.cells #[.int .i64 0,.int .i64 0,.int .i64 0] 55)):=h.keep (KS.below (fun _=>False) hB0) (fun x hl hx=>⟨⟨hx,hl⟩,id⟩)
  have HHW:=AS hHW
  have hbl:=h.lt
  have hgl:=h.ltg
  have hcap:cap≤9223372036854775807:=by obtain⟨A,c,e,-,-,hm,-⟩:=h.2.1.row;simp at e;omega
  have hrow:=h.row hil
  have hmem:rs.getD i arowE.d∈rs:=by simp[List.getD,hil]
  have hqu:=hHW.2.2.2.2.2.2.2.2.2 _ hmem
  have hql1:(rs.getD i arowE.d).r.queue.length≤1000000:=hql _ (by rw[<- h.2.2.1];exact List.mem_map_of_mem hmem)
  have HRW:=AS (show a.row i=(rs.getD i arowE.d).r by unfold Arb.row;rw[show(i:Int).toNat=i by omega,hrow])
  generalize hx:rs.getD i arowE.d=x at *
  have HX:=AS hx
  obtain⟨⟨sq,⟨ab,an,aq⟩,on,en,kn,qu⟩,q,hh,hk⟩:=x
  obtain⟨QA,qc,hqe,hqr,hq1,hq2,hq3,hq4⟩:=hqu
  simp only at hqe
  subst hqe
  simp only at hqr hq1 hq2 hq3 hq4 hql1
  rw[HRW.out]
  simp only
  have XR:=AS (blk_new w (.cells #[.int .i64 0,.int .i64 0,.int .i64 0] 55))
  have BW:=AS hB0
  have hi0:i < a.rows.length:=by omega
  have OW:=AS (hHW.2.1.cell0 hil hx)
  have CL:=AS (show ∀ W1:Go.World,Below (w.alloc (.cells #[.int .i64 0,.int .i64 0,.int .i64 0] 55)).heap.size (w.alloc (.cells #[.int .i64 0,.int .i64 0,.int .i64 0] 55)) W1->W1.cell? ⟨b,1,none⟩=some (.slice (some ⟨g,0,none⟩) rs.length cap)/\OwnE arowE (.slice (some ⟨g,0,none⟩) rs.length cap) (rs.set i ⟨⟨sq,⟨ab,an,aq⟩,on,en,kn,qu⟩,.slice QA qu.length qc,hh,hk⟩) W1 from fun W1 hb=>⟨cw (blk_below hHW.1 hb) 1,OW.out.ks (KS.below (fun _=>False) hb) (fun _ _=>id)⟩)
  have r0:(0:Int)≤(i:Int):=by omega
  have r1:(i:Int) < (rs.length:Int):=by omega
  have HC:=AS (cloneI_any (c:=qc) hqr hq3 (show _ * 8≤_ by omega))
  have C1:(w.alloc (.cells #[.int .i64 0,.int .i64 0,.int .i64 0] 55)).cell? ⟨b,1,none⟩=some (.slice (some ⟨g,0,none⟩) rs.length cap):=(CL.out _ (Below.refl _ _)).1
  have E70:(w.alloc (.cells #[.int .i64 0,.int .i64 0,.int .i64 0] 55)).cell? ⟨g,i * 71+70,none⟩=some (.slice QA qu.length qc):=(own_cells OW.out hil 70 (by decide)).trans (arowC_q _)
  have hsz:(w.alloc (.cells #[.int .i64 0,.int .i64 0,.int .i64 0] 55)).heap.size=w.heap.size+1:=by simp
  clear h hHW hask hi hlen hql hrow hmem hx hqr hq1 hq3 hq4
  go_enter Tryz.func125,Tryz.ntmps125
  go_wp2_with fail
  refine(arbIs_any HB.out i n).mono ?_
  rintro e w1 ⟨rfl,rfl⟩
  rw[his]
  generalize w.alloc (.cells #[.int .i64 0,.int .i64 0,.int .i64 0] 55)=W at HB HHW XR BW OW CL HC C1 E70 hsz ⊢
  go_wp2_with fail
  refine HC.out.mono ?_
  rintro e w2 ⟨v,rfl,hO,hf,hb⟩
  obtain⟨A1,n1,k1,rfl⟩:∃ A n c,v=.slice A n c:=(by obtain⟨A,c,h,_⟩:=OwnE.row hO;exact⟨_,_,_,h⟩)
  have O2:=AS (hO.ks (KS.below (fun _=>False) (below_alloc (Below.refl _ w2) (.cells #[.int .i64 n] 3))) (fun _ _=>id))
  have F2:=AS hf
  have R2:=AS (rowE_one (E:=intE) (x:=n) (blk_new w2 (.cells #[.int .i64 n] 3)))
  have B2:=AS (show Below W.heap.size W (w2.alloc (.cells #[.int .i64 n] 3)) from below_alloc hb _)
  have hs2:=hb.size
  clear hO hf hb HC
  go_wp2_with (at_builtin;refine list_appE (E:=intE) (xs:=qu) (ys:=[n]) (by kernel_rfl) _ _ rfl rfl rfl rfl (by exact O2.out) (by exact R2.out) (by show _ * 8≤_;simp;omega) ?_;intro v3 w3 hO hK hf;obtain⟨A3,n3,k3,rfl⟩:∃ A n c,v3=.slice A n c:=(by obtain⟨A,c,h,_⟩:=OwnE.row hO;exact⟨_,_,_,h⟩);have O3:=AS hO;have K3:=AS (show Below W.heap.size W w3 from B2.out.trans (hK.toBelow F2.out (by have:=B2.out.size;simpa using this)));have F3:Aside0 (foot (.slice A3 n3 k3)=foot (.slice A1 n1 k1)∨foot (.slice A3 n3 k3)=[w2.heap.size+1]):=⟨hf.imp id (fun e=>e.trans (by simp))⟩;clear hO hK hf;have W3:=AS (CL.out w3 K3.out);have c1':=W3.out.1;have gz:=fun j=>own_frz W3.out.2 j;have e70':w3.cell? ⟨g,i * 71+70,none⟩=some (.slice QA qu.length qc):=(own_cells W3.out.2 hil 70 (by decide)).trans (arowC_q _))
  have hoc:(Value.slice A3 n3 k3).oneCell'=true:=rfl
  have hO4:=W3.out.2.cell2 hil 70 (by decide) ⟨⟨sq,⟨ab,an,aq⟩,on,en,kn,qu ++ [n]⟩,.slice A3 n3 k3,hoc,hk⟩ (.slice A3 n3 k3) (set_q ⟨⟨sq,⟨ab,an,aq⟩,on,en,kn,qu⟩,.slice QA qu.length qc,hh,hk⟩ (.slice A3 n3 k3) hoc (qu ++ [n]))
  have hfr:∀ x∈foot (.slice A3 n3 k3),W.heap.size≤x:=by
   intro x hx
   rcases F3.out with e | e
   ·rw[e] at hx;exact F2.out x hx
   ·rw[e] at hx;simp at hx;omega
  obtain⟨hX4,hk4⟩:=HHW.out.setRow (w':=w3.setCell ⟨g,i * 71+70,none⟩ (.slice A3 n3 k3)) hil ⟨⟨sq,⟨ab,an,aq⟩,on,en,kn,qu ++ [n]⟩,.slice A3 n3 k3,hoc,hk⟩ ((KS.below (fun x=>x=g) K3.out).set (g:=g) (.inl rfl) (i * 71+70) (.slice A3 n3 k3)) hO4 (quOk_fresh O3.out (fun x hx=>by have:=hfr x hx;exact⟨.inr this,by omega,by omega⟩) _ _)
  have X4:=AS hX4
  have H4:=AS hk4
  have XR4:=AS (hk4.at_ XR.out (notP0 (Nat.le_refl _)))
  clear hX4 hk4 hO4 c1' gz e70' C1 E70
  generalize w3.setCell ⟨g,i * 71+70,none⟩ (.slice A3 n3 k3)=w4 at X4 H4 XR4 ⊢
  have HN:=AS (arbNext_any X4.out (i:=i) (by simpa using hi0))
  have hcs:(a.setRow i ⟨sq,⟨ab,an,aq⟩,on,en,kn,qu ++ [n]⟩)={ a with rows:=a.rows.set i ⟨sq,⟨ab,an,aq⟩,on,en,kn,qu ++ [n]⟩}:=by unfold Arb.setRow;rw[show(i:Int).toNat=i by omega]
  rw[<- hcs] at HN
  generalize (a.setRow i ⟨sq,⟨ab,an,aq⟩,on,en,kn,qu ++ [n]⟩).next i=nx at *
  obtain⟨nx1,nx2⟩:=nx
  have HAV:=AS (show actO nx2=.tuple #[.agg #[.int .i64 (nx2.getD act0).block,.int .i64 (nx2.getD act0).node,.int .i64 (nx2.getD act0).seq],.bool nx2.isSome] from rfl)
  refine HN.out.mono ?_
  rintro e w5 ⟨rfl,hX5,hk5⟩
  simp only
  rw[HAV.out]
  generalize (nx2.getD act0).block=m1 at *
  generalize (nx2.getD act0).node=m2 at *
  generalize (nx2.getD act0).seq=m3 at *
  generalize nx2.isSome=m4 at *
  have NB:=AS (notGr (P:=(fun x=>F x/\x < w.heap.size)) (W:=W) (notP0 (Nat.le_refl w.heap.size)) (blk_lt XR.out))
  have X5:=AS hX5
  have XR5:=AS (hk5.at_ XR4.out NB.out)
  have NB5:=AS (notGr (W:=w4) NB.out (blk_lt XR4.out))
  have CH5:=AS ((((Ch.refl F w).below BW.out).op H4.out).op hk5)
  clear hX5 hk5 HN hcs
  have z0:=cw XR5.out 0 (v:=.int .i64 0)
  have z1:=cw XR5.out 1 (v:=.int .i64 0)
  have z2:=cw XR5.out 2 (v:=.int .i64 0)
  have zz0:=blk_frozen XR5.out 0
  have zz1:=blk_frozen XR5.out 1
  have zz2:=blk_frozen XR5.out 2
  go_wp2
  have hk6:=((((KS.refl (fun x=>x=w.heap.size) w5).set (g:=w.heap.size) (.inl rfl) 0 (.int .i64 m1)).set (g:=w.heap.size) (.inl rfl) 1 (.int .i64 m2)).set (g:=w.heap.size) (.inl rfl) 2 (.int .i64 m3))
  have hch:=(((CH5.out.set (Nat.le_refl _) 0 (.int .i64 m1)).set (Nat.le_refl _) 1 (.int .i64 m2)).set (Nat.le_refl _) 2 (.int .i64 m3))
  refine bodyPost_ret (v:=.tuple #[.agg #[.int .i64 m1,.int .i64 m2,.int .i64 m3],.bool m4]) (by simp[results,Tryz.results125,go_sem,z0,z1,z2]) rfl ⟨by rw[HAV.out],?_,hch.1⟩
  exact X5.out.keep hk6 (fun x _ hx=>⟨hch.2 x hx,fun e=>NB5.out (e ▸ hx)⟩)
theorem arbNew_any (nn nb:Int) (w:Go.World):Calls Tryz.prog 47 #[.int .i64 nn,.int .i64 nb] w fun e w'=>∃ b,e=.returned (.pointer (some ⟨b,0,none⟩))/\ArbX (Arb.new nn nb) b (nw w) w'/\Below w.heap.size w w':=by
 have hA:Arb.new nn nb=⟨min (max nn 0) 64,List.replicate (min (max nb 0) 64).toNat ar0⟩:=rfl
 rw[hA]
 clear hA
 have h1:(nn < 0/\min (max nn 0) 64=0)∨(¬ nn < 0/\¬ 64 < nn/\min (max nn 0) 64=nn)∨(¬ nn < 0/\64 < nn/\min (max nn 0) 64=64):=by omega
 have h2:(nb < 0/\min (max nb 0) 64=((0:Nat):Int))∨(¬ nb < 0/\¬ 64 < nb/\∃ n:Nat,n≤64/\nb=n/\min (max nb 0) 64=n)∨(¬ nb < 0/\64 < nb/\min (max nb 0) 64=((64:Nat):Int)):=by
  by_cases q1:nb < 0
  ·exact .inl ⟨q1,by omega⟩
  ·by_cases q2:64 < nb
   ·exact .inr (.inr ⟨q1,q2,by omega⟩)
   ·exact .inr (.inl ⟨q1,q2,nb.toNat,by omega,by omega,by omega⟩)
 have FIN:=AS (show ∀ (m:Int) (n:Nat),0≤m->m≤64->n≤64->ArbX ⟨m,List.replicate n ar0⟩ (w.heap.size+1) (nw w) ((w.alloc (.cells (flat arowE (List.replicate n arowE.d)).toArray arowE.T)).alloc (.cells #[.int .i64 m,.slice (some ⟨w.heap.size,0,none⟩) n n] 172))/\Below w.heap.size w ((w.alloc (.cells (flat arowE (List.replicate n arowE.d)).toArray arowE.T)).alloc (.cells #[.int .i64 m,.slice (some ⟨w.heap.size,0,none⟩) n n] 172)) from by
  intro m n hm0 hm1 hn
  have hO:=ownE_made (E:=arowE) n (by show _ * 128≤_;omega) w
  refine⟨⟨w.heap.size,n,List.replicate n arowE.d,?_,?_,?_,by omega,by show w.heap.size≤_;omega,Nat.le_refl _,hm0,hm1,by simpa using hn,?_⟩,below_alloc (below_alloc (Below.refl _ _) _) _⟩
  ·have:=blk_new (w.alloc (.cells (flat arowE (List.replicate n arowE.d)).toArray arowE.T)) (.cells #[.int .i64 m,.slice (some ⟨w.heap.size,0,none⟩) n n] 172)
   rw[World.size_alloc] at this
   rw[List.length_replicate];exact this
  ·rw[List.length_replicate]
   exact hO.ks (KS.below (fun _=>False) (below_alloc (Below.refl _ _) _)) (fun _ _=>id)
  ·simp[arowE]
  ·intro p hp
   rw[List.eq_of_mem_replicate hp]
   exact⟨none,0,rfl,fun j hj=>by simp[arowE,ar0] at hj,by simp[arowE,ar0],by omega,fun _=>rfl,fun ad e=>by simp at e⟩)
 have M0:=fun n (hn:n≤64)=>run_makeE (E:=arowE) n (by show _ * 128≤_;omega) w
 rcases h1 with ⟨a1,h1⟩ | ⟨a1,a2,h1⟩ | ⟨a1,a2,h1⟩
 ·rw[h1]
  rcases h2 with ⟨b1,h2⟩ | ⟨b1,b2,n,hn,rfl,h2⟩ | ⟨b1,b2,h2⟩
  ·rw[h2]
   simp only[Int.toNat_natCast]
   have FI:=AS (FIN.out (0) 0 (by omega) (by omega) (by omega))
   have mk:(Instr.makeSlice 170 (.int .i64 0) (.int .i64 0)).run Tryz.prog w=.ok (.slice (some ⟨w.heap.size,0,none⟩) 0 0) (w.alloc (.cells (flat arowE (List.replicate 0 arowE.d)).toArray arowE.T)):=(M0 0 (by omega))
   clear FIN M0 h1 h2
   generalize (Obj.cells (flat arowE (List.replicate 0 arowE.d)).toArray arowE.T)=ob at *
   go_enter Tryz.func47,Tryz.ntmps47
   go_wp2
   go_ret
   exact⟨_,rfl,FI.out⟩
  ·rw[h2]
   simp only[Int.toNat_natCast]
   have FI:=AS (FIN.out (0) n (by omega) (by omega) hn)
   have mk:(Instr.makeSlice 170 (.int .i64 (n:Int)) (.int .i64 (n:Int))).run Tryz.prog w=.ok (.slice (some ⟨w.heap.size,0,none⟩) n n) (w.alloc (.cells (flat arowE (List.replicate n arowE.d)).toArray arowE.T)):=(M0 n hn)
   clear FIN M0 h1 h2
   generalize (Obj.cells (flat arowE (List.replicate n arowE.d)).toArray arowE.T)=ob at *
   go_enter Tryz.func47,Tryz.ntmps47
   go_wp2
   go_ret
   exact⟨_,rfl,FI.out⟩
  ·rw[h2]
   simp only[Int.toNat_natCast]
   have FI:=AS (FIN.out (0) 64 (by omega) (by omega) (by omega))
   have mk:(Instr.makeSlice 170 (.int .i64 64) (.int .i64 64)).run Tryz.prog w=.ok (.slice (some ⟨w.heap.size,0,none⟩) 64 64) (w.alloc (.cells (flat arowE (List.replicate 64 arowE.d)).toArray arowE.T)):=(M0 64 (by omega))
   clear FIN M0 h1 h2
   generalize (Obj.cells (flat arowE (List.replicate 64 arowE.d)).toArray arowE.T)=ob at *
   go_enter Tryz.func47,Tryz.ntmps47
   go_wp2
   go_ret
   exact⟨_,rfl,FI.out⟩
 ·rw[h1]
  rcases h2 with ⟨b1,h2⟩ | ⟨b1,b2,n,hn,rfl,h2⟩ | ⟨b1,b2,h2⟩
  ·rw[h2]
   simp only[Int.toNat_natCast]
   have FI:=AS (FIN.out (nn) 0 (by omega) (by omega) (by omega))
   have mk:(Instr.makeSlice 170 (.int .i64 0) (.int .i64 0)).run Tryz.prog w=.ok (.slice (some ⟨w.heap.size,0,none⟩) 0 0) (w.alloc (.cells (flat arowE (List.replicate 0 arowE.d)).toArray arowE.T)):=(M0 0 (by omega))
   clear FIN M0 h1 h2
   generalize (Obj.cells (flat arowE (List.replicate 0 arowE.d)).toArray arowE.T)=ob at *
   go_enter Tryz.func47,Tryz.ntmps47
   go_wp2
   go_ret
   exact⟨_,rfl,FI.out⟩
  ·rw[h2]
   simp only[Int.toNat_natCast]
   have FI:=AS (FIN.out (nn) n (by omega) (by omega) hn)
   have mk:(Instr.makeSlice 170 (.int .i64 (n:Int)) (.int .i64 (n:Int))).run Tryz.prog w=.ok (.slice (some ⟨w.heap.size,0,none⟩) n n) (w.alloc (.cells (flat arowE (List.replicate n arowE.d)).toArray arowE.T)):=(M0 n hn)
   clear FIN M0 h1 h2
   generalize (Obj.cells (flat arowE (List.replicate n arowE.d)).toArray arowE.T)=ob at *
   go_enter Tryz.func47,Tryz.ntmps47
   go_wp2
   go_ret
   exact⟨_,rfl,FI.out⟩
  ·rw[h2]
   simp only[Int.toNat_natCast]
   have FI:=AS (FIN.out (nn) 64 (by omega) (by omega) (by omega))
   have mk:(Instr.makeSlice 170 (.int .i64 64) (.int .i64 64)).run Tryz.prog w=.ok (.slice (some ⟨w.heap.size,0,none⟩) 64 64) (w.alloc (.cells (flat arowE (List.replicate 64 arowE.d)).toArray arowE.T)):=(M0 64 (by omega))
   clear FIN M0 h1 h2
   generalize (Obj.cells (flat arowE (List.replicate 64 arowE.d)).toArray arowE.T)=ob at *
   go_enter Tryz.func47,Tryz.ntmps47
   go_wp2
   go_ret
   exact⟨_,rfl,FI.out⟩
 ·rw[h1]
  rcases h2 with ⟨b1,h2⟩ | ⟨b1,b2,n,hn,rfl,h2⟩ | ⟨b1,b2,h2⟩
  ·rw[h2]
   simp only[Int.toNat_natCast]
   have FI:=AS (FIN.out (64) 0 (by omega) (by omega) (by omega))
   have mk:(Instr.makeSlice 170 (.int .i64 0) (.int .i64 0)).run Tryz.prog w=.ok (.slice (some ⟨w.heap.size,0,none⟩) 0 0) (w.alloc (.cells (flat arowE (List.replicate 0 arowE.d)).toArray arowE.T)):=(M0 0 (by omega))
   clear FIN M0 h1 h2
   generalize (Obj.cells (flat arowE (List.replicate 0 arowE.d)).toArray arowE.T)=ob at *
   go_enter Tryz.func47,Tryz.ntmps47
   go_wp2
   go_ret
   exact⟨_,rfl,FI.out⟩
  ·rw[h2]
   simp only[Int.toNat_natCast]
   have FI:=AS (FIN.out (64) n (by omega) (by omega) hn)
   have mk:(Instr.makeSlice 170 (.int .i64 (n:Int)) (.int .i64 (n:Int))).run Tryz.prog w=.ok (.slice (some ⟨w.heap.size,0,none⟩) n n) (w.alloc (.cells (flat arowE (List.replicate n arowE.d)).toArray arowE.T)):=(M0 n hn)
   clear FIN M0 h1 h2
   generalize (Obj.cells (flat arowE (List.replicate n arowE.d)).toArray arowE.T)=ob at *
   go_enter Tryz.func47,Tryz.ntmps47
   go_wp2
   go_ret
   exact⟨_,rfl,FI.out⟩
  ·rw[h2]
   simp only[Int.toNat_natCast]
   have FI:=AS (FIN.out (64) 64 (by omega) (by omega) (by omega))
   have mk:(Instr.makeSlice 170 (.int .i64 64) (.int .i64 64)).run Tryz.prog w=.ok (.slice (some ⟨w.heap.size,0,none⟩) 64 64) (w.alloc (.cells (flat arowE (List.replicate 64 arowE.d)).toArray arowE.T)):=(M0 64 (by omega))
   clear FIN M0 h1 h2
   generalize (Obj.cells (flat arowE (List.replicate 64 arowE.d)).toArray arowE.T)=ob at *
   go_enter Tryz.func47,Tryz.ntmps47
   go_wp2
   go_ret
   exact⟨_,rfl,FI.out⟩
theorem setCells_blk {g T:Nat}:∀ (vs:List Value) (off:Nat) (cur:Array Value) (W:Go.World),W.heap[g]?=some (.cells cur T (0,0))->off+vs.length≤cur.size->∃ cur':Array Value,(W.setCells g off vs).heap[g]?=some (.cells cur' T (0,0))/\cur'.size=cur.size/\∀ j,cur'[j]?=if off≤j/\j < off+vs.length then vs[j - off]? else cur[j]?:=by
 intro vs
 induction vs with
 | nil =>
  intro off cur W h hl
  refine⟨cur,h,rfl,fun j=>?_⟩
  rw[if_neg (by simp)]
 | cons v vs ih =>
  intro off cur W h hl
  simp only[List.length_cons] at hl
  obtain⟨cur',h1,h2,h3⟩:=ih (off+1) (cur.setIfInBounds off v) (W.setCell ⟨g,off,none⟩ v) (blk_set h off v) (by simp;omega)
  refine⟨cur',h1,by simpa using h2,fun j=>?_⟩
  rw[h3 j,get_set']
  simp only[List.length_cons]
  by_cases a1:off+1≤j/\j < off+1+vs.length
  ·rw[if_pos a1,if_pos (by omega),show j - off=(j - (off+1))+1 by omega,List.getElem?_cons_succ]
  ·rw[if_neg a1]
   by_cases a2:off=j
   ·subst a2
    rw[if_pos rfl,if_pos (by omega),if_pos (by omega)]
    simp
   ·rw[if_neg a2,if_neg (by omega)]
theorem KS.setCells {F:Set_} {w:Go.World} {g:Nat} (hg:F g∨w.heap.size≤g):∀ (vs:List Value) (off:Nat) (W:Go.World),KS F w W->KS F w (W.setCells g off vs):=by
 intro vs
 induction vs with
 | nil=>intro off W h;exact h
 | cons v vs ih=>intro off W h;exact ih (off+1) _ (h.set hg off v)
theorem OwnE.cells2 {α:Type} {E:El α} {xs:List α} {W:Go.World} {g cap i:Nat} {y0:α} (h:OwnE E (.slice (some ⟨g,0,none⟩) xs.length cap) (xs.set i y0) W) (hi:i < xs.length) (j:Nat) (vs:List Value) (hj:j+vs.length≤E.k) (y:α) (hy:∀ q,q < E.k->(E.f y)[q]?=if j≤q/\q < j+vs.length then vs[q - j]? else (E.f y0)[q]?):OwnE E (.slice (some ⟨g,0,none⟩) xs.length cap) (xs.set i y) (W.setCells g (i * E.k+j) vs):=by
 have hcs:=own_cells h hi
 have hl:(xs.set i y0).length=xs.length:=by simp
 have h':OwnE E (.slice (some ⟨g,0,none⟩) (xs.set i y0).length cap) (xs.set i y0) W:=by rw[hl];exact h
 have hkk:i * E.k+E.k≤xs.length * E.k:=by rw[<- Nat.succ_mul];exact Nat.mul_le_mul_right _ hi
 have:=h'.setElem (i:=i) (by rw[hl];exact hi) y (W':=W.setCells g (i * E.k+j) vs) fun cur hg hs=>by
  rw[hl] at hs
  obtain⟨cur',k1,k2,k3⟩:=setCells_blk vs (i * E.k+j) cur W hg (by omega)
  refine⟨cur',k1,k2,fun q hq=>?_⟩
  rw[k3 q]
  by_cases hr:i * E.k≤q/\q < i * E.k+E.k
  ·rw[if_pos hr,hy (q - i * E.k) (by omega)]
   have hc:=hcs (q - i * E.k) (by omega)
   rw[blk_cell hg,show i * E.k+(q - i * E.k)=q by omega] at hc
   by_cases ha:i * E.k+j≤q/\q < i * E.k+j+vs.length
   ·rw[if_pos ha,if_pos (by omega),show q - i * E.k - j=q - (i * E.k+j) by omega]
   ·rw[if_neg ha,if_neg (by omega),hc]
  ·rw[if_neg hr,if_neg (by omega)]
 rw[hl,List.set_set] at this
 exact this
theorem set_k (p:ARowR) (kn:List Bool) (hkn:kn.length=64) (q:Nat) (hq:q < 71):(arowC ⟨{ p.r with knows:=kn },p.q,p.h,hkn⟩)[q]?=if 6≤q/\q < 6+(kn.map (fun b=>Value.bool b)).length then (kn.map (fun b=>Value.bool b))[q - 6]? else (arowC p)[q]?:=by
 have hp:=p.hk
 unfold arowC
 simp only[List.length_map,hkn]
 by_cases h1:q < 6
 ·rw[if_neg (by omega),List.getElem?_append_left (by simp;omega),List.getElem?_append_left (by simp;omega),List.getElem?_append_left (by simp[hp];omega),List.getElem?_append_left (by simp;omega)]
 ·by_cases h2:q < 70
  ·rw[if_pos (by omega),List.getElem?_append_left (by simp[hkn];omega),List.getElem?_append_right (by simp;omega)]
   simp
  ·have h3:q=70:=by omega
   subst h3
   rw[if_neg (by omega),List.getElem?_append_right (by simp[hkn]),List.getElem?_append_right (by simp[hp])]
   simp[hkn,hp]
def bsV (bs:List Bool):Value:=.agg (bs.map fun b=>Value.bool b).toArray
theorem build213 (W:Go.World):(Instr.build 213 #[]).run Tryz.prog W=.ok (bsV (List.replicate 64 false)) W:=by kernel_rfl
theorem size213:(Tryz.prog.info? 213).map (·.size)=some 64:=by kernel_rfl
theorem under213:Tryz.prog.underlying 213=some (.array 64 4):=by kernel_rfl
theorem under4:Tryz.prog.underlying 4=some .bool:=by kernel_rfl
theorem sizeOf4 (w:Go.World):(sizeOf 4).run Tryz.prog w=.ok 1 w:=by kernel_rfl
theorem store213 (w:Go.World) (g o:Nat) (bs:List Bool) (hl:bs.length=64) (h:w.there g o 64):(Instr.storeAt 213 (.pointer (some ⟨g,o,none⟩)) (bsV bs)).run Tryz.prog w=.ok () (w.setCells g o (bs.map fun b=>Value.bool b)):=by
 have hs:(bs.map fun b=>Value.bool b).toArray.size=64:=by simp[hl]
 exact run_storeAt_mid (P:=Tryz.prog) w g o 213 (bs.map fun b=>Value.bool b).toArray (by rw[hs];exact h) (by rw[hs];exact size213) (by simp[Value.oneCell'])
theorem all_range_bool:∀ (xs ys:List Bool),xs.length=ys.length->((List.range xs.length).all fun i=>xs.getD i false == ys.getD i false)=(xs == ys)
 | [],[],_=>rfl
 | x :: xs,y :: ys,h=>by
  have ih:=all_range_bool xs ys (by simpa using h)
  rw[List.length_cons,List.range_succ_eq_map,List.all_cons,List.all_map]
  simp only[List.getD_cons_zero,Function.comp_def,List.getD_cons_succ,ih]
  simp[List.cons_beq_cons]
 | [],_ :: _,h=>by simp at h
 | _ :: _,[],h=>by simp at h
theorem equal213 (w:Go.World) (d:Nat) (xs ys:List Bool) (hx:xs.length=64) (hy:ys.length=64):(Op.equalIn (d+2) 213 (bsV xs) (bsV ys)).run Tryz.prog w=.ok (xs == ys) w:=by
 rw[<- all_range_bool xs ys (hx.trans hy.symm),hx,List.range_eq_range',bsV,bsV,Op.equalIn]
 simp only[Sem.run_bind,run_underlying under213,Result.andThen_ok,sizeOf4,Std.Legacy.Range.forIn_eq_forIn_range',Std.Legacy.Range.size,Nat.sub_zero,Nat.add_sub_cancel,Nat.div_one]
 have hl:∀ i∈List.range' 0 64 1,i < 64:=fun i hi=>by simpa using (List.mem_range'_1.1 hi).2
 generalize List.range' 0 64 1=l at hl ⊢
 induction l with
 | nil=>simp
 | cons i l ih =>
  have hi:i < 64:=hl i (by simp)
  have px:(part 4 (xs.map fun b=>Value.bool b).toArray (i * 1)).run Tryz.prog w=.ok (.bool (xs.getD i false)) w:=by
   simp[part,isAgg,run_underlying under4,List.getD,List.getElem?_eq_getElem (show i < xs.length by omega)]
  have py:(part 4 (ys.map fun b=>Value.bool b).toArray (i * 1)).run Tryz.prog w=.ok (.bool (ys.getD i false)) w:=by
   simp[part,isAgg,run_underlying under4,List.getD,List.getElem?_eq_getElem (show i < ys.length by omega)]
  have pe:(Op.equalIn (d+1) 4 (.bool (xs.getD i false)) (.bool (ys.getD i false))).run Tryz.prog w=.ok (xs.getD i false == ys.getD i false) w:=run_equalIn_bool w d 4 _ _ under4
  simp only[List.forIn_cons,Sem.run_bind,px,py,pe,Result.andThen_ok,List.all_cons]
  cases hb:(xs.getD i false == ys.getD i false)
  ·simp
  ·simp only[Bool.not_true,Bool.false_eq_true,if_false,Sem.run_pure,Result.andThen_ok,Bool.true_and]
   exact ih fun j hj=>hl j (by simp[hj])
theorem neq213 (w:Go.World) (xs ys:List Bool) (hx:xs.length=64) (hy:ys.length=64):(binOp .neq 213 (bsV xs) (bsV ys)).run Tryz.prog w=.ok (.bool (!(xs == ys))) w:=by
 unfold bsV
 rw[run_neq_struct]
 have:=equal213 w 9998 xs ys hx hy
 unfold bsV at this
 rw[this]
 rfl
def zK:List Bool:=List.replicate 64 false
theorem zK_len:zK.length=64:=by simp[zK]
theorem build213z (W:Go.World):(Instr.build 213 #[]).run Tryz.prog W=.ok (bsV zK) W:=build213 W
section
variable {ops:Array Oper} {rest:List Oper} {op:Oper} {a:Act} {w:Go.World} {Q:Exit->Act->Go.World->Prop}
theorem wpList_build213 (hgd:op.guard=none) (ho:op.op=.build 213 #[]) (h:wpList Tryz.prog ops Q rest (a.put op.dst (bsV zK)) w):wpList Tryz.prog ops Q (op :: rest) a w :=
 wpList_plain hgd fun _ hK=>by
  unfold Oper.wp execOp
  simp only[ho,Array.map_empty,Sem.run_bind,build213z,Result.andThen_ok]
  exact hK _ _ h
theorem wpList_store213 (bs:List Bool) (hl:bs.length=64) (hgd:op.guard=none) (x y:Operand) (ho:op.op=.store 213 x y) (g o:Nat) (hx:a.eval x=.pointer (some ⟨g,o,none⟩)) (hy:a.eval y=bsV bs) (ht:w.there g o 64) (h:wpList Tryz.prog ops Q rest (a.put op.dst undef) (w.setCells g o (bs.map fun b=>Value.bool b))):wpList Tryz.prog ops Q (op :: rest) a w :=
 wpList_plain hgd fun _ hK=>by
  unfold Oper.wp execOp
  simp only[ho,hx,hy,Sem.run_bind,store213 w g o bs hl ht,Result.andThen_ok]
  exact hK _ _ h
end
theorem arbDone_any {a:Arb} {b:Nat} {F:Set_} {w:Go.World} (hA:ArbX a b F w) (k s:Int):Calls Tryz.prog 126 #[.pointer (some ⟨b,0,none⟩),.int .i64 k,.int .i64 s] w (ArbP (.bool (a.done k s).2) (a.done k s).1 b F w):=by
 have AB:=AS hA
 obtain⟨g,cap,rs,h⟩:=hA
 have hlen:=h.len
 have hdn:a.done k s=if k < 0∨k≥a.rows.length then (a,false) else if !(a.row k).on || (a.row k).active.seq != s then (a,false)
   else (a.setRow k { a.row k with on:=false,ending:=true,knows:=List.replicate 64 false },true):=rfl
 rw[hdn]
 have c1:=cw h.1 1 (v:=.slice (some ⟨g,0,none⟩) rs.length cap)
 have hcap:cap≤9223372036854775807:=by obtain⟨A,c,e,-,-,hm,-⟩:=h.2.1.row;simp at e;omega
 by_cases q1:k < 0
 ·rw[if_pos (.inl q1)]
  clear h hdn
  go_enter Tryz.func126,Tryz.ntmps126
  go_wp2
  go_ret
  exact⟨rfl,AB.out.keep (KS.refl (fun _=>False) _) (fun x _ h=>⟨.inl h,id⟩),KS.refl _ _⟩
 ·by_cases q2:k≥(rs.length:Int)
  ·rw[if_pos (.inr (by rw[<- hlen];exact q2))]
   clear h hdn
   go_enter Tryz.func126,Tryz.ntmps126
   go_wp2
   go_ret
   exact⟨rfl,AB.out.keep (KS.refl (fun _=>False) _) (fun x _ h=>⟨.inl h,id⟩),KS.refl _ _⟩
  ·rw[if_neg (by rw[<- hlen];rintro(h | h);exact q1 h;exact q2 h)]
   obtain⟨i,rfl⟩:∃ i:Nat,k=i:=⟨k.toNat,by omega⟩
   have hi:i < rs.length:=by omega
   have hrow:=h.row hi
   have hmem:rs.getD i arowE.d∈rs:=by simp[List.getD,hi]
   have hqu:=h.2.2.2.2.2.2.2.2.2 _ hmem
   have HRW:=AS (show a.row i=(rs.getD i arowE.d).r by unfold Arb.row;rw[show(i:Int).toNat=i by omega,hrow])
   generalize hx:rs.getD i arowE.d=x at *
   have HX:=AS hx
   have OW:=AS (h.2.1.cell0 hi hx)
   have cs:=own_cells OW.out hi
   have HH:=AS h
   rw[HRW.out]
   obtain⟨⟨sq,⟨ab,an,aq⟩,on,en,kn,qu⟩,q,hh,hk⟩:=x
   have e3:w.cell? ⟨g,i * 71+3,none⟩=some (.int .i64 aq):=cs 3 (by decide)
   have e4:w.cell? ⟨g,i * 71+4,none⟩=some (.bool on):=cs 4 (by decide)
   have e5:w.cell? ⟨g,i * 71+5,none⟩=some (.bool en):=cs 5 (by decide)
   have FZ:=fun j=>own_frz OW.out j
   have r0:(0:Int)≤(i:Int):=by omega
   have r1:(i:Int) < (rs.length:Int):=by omega
   have HQU:=AS hqu
   clear cs h hdn hlen hrow hmem hx hqu
   simp only
   cases on
   ·rw[if_pos (by simp)]
    go_enter Tryz.func126,Tryz.ntmps126
    go_wp2
    go_ret
    exact⟨rfl,AB.out.keep (KS.refl (fun _=>False) _) (fun x _ h=>⟨.inl h,id⟩),KS.refl _ _⟩
   ·by_cases hs:aq=s
    ·rw[if_neg (by simp[hs])]
     have O1:=AS (OW.out.cell2 hi 4 (by decide) ⟨⟨sq,⟨ab,an,aq⟩,false,en,kn,qu⟩,q,hh,hk⟩ (.bool false) rfl)
     have O2:=AS (O1.out.cell2 hi 5 (by decide) ⟨⟨sq,⟨ab,an,aq⟩,false,true,kn,qu⟩,q,hh,hk⟩ (.bool true) rfl)
     have O3:=AS (O2.out.cells2 hi 6 (zK.map (fun b=>Value.bool b)) (by rw[List.length_map,zK_len];decide) ⟨⟨sq,⟨ab,an,aq⟩,false,true,zK,qu⟩,q,hh,zK_len⟩ (fun j hj=>set_k ⟨⟨sq,⟨ab,an,aq⟩,false,true,kn,qu⟩,q,hh,hk⟩ zK zK_len j hj))
     have TH:=AS (show((w.setCell ⟨g,i * 71+4,none⟩ (.bool false)).setCell ⟨g,i * 71+5,none⟩ (.bool true)).there g (i * 71+6) 64 from fun j hj=>by
      have hc:((w.setCell ⟨g,i * 71+4,none⟩ (.bool false)).setCell ⟨g,i * 71+5,none⟩ (.bool true)).cell? ⟨g,i * 71+(6+j),none⟩=(arowE.f ⟨⟨sq,⟨ab,an,aq⟩,false,true,kn,qu⟩,q,hh,hk⟩)[6+j]?:=own_cells O2.out hi (6+j) (by show _ < 71;omega)
      refine⟨?_,own_frz O2.out _⟩
      rw[show i * 71+6+j=i * 71+(6+j) by omega,hc]
      rw[List.getElem?_eq_getElem (by rw[arowE.len];show _ < 71;omega)]
      rfl)
     subst hs
     have hsb:(aq != aq)=false:=by simp
     go_enter Tryz.func126,Tryz.ntmps126
     rw[show List.replicate 64 false=zK from rfl]
     obtain⟨u6,e6⟩:∃ u,w.cell? ⟨g,i * 71+6,none⟩=some u:=⟨_,(own_cells OW.out hi 6 (by decide)).trans (List.getElem?_eq_getElem (by rw[arowE.len];decide))⟩
     go_wp2_with (first | (refine wpList_build213 rfl rfl ?_) | (refine wpList_store213 zK zK_len rfl _ _ rfl g (i * 71+6) rfl rfl TH.out ?_))
     go_ret
     have hk2:KS (fun x=>x=g) w ((w.setCell ⟨g,i * 71+4,none⟩ (.bool false)).setCell ⟨g,i * 71+5,none⟩ (.bool true)):=KS.set (F:=fun x=>x=g) (KS.set (F:=fun x=>x=g) (KS.refl _ w) (.inl rfl) _ _) (.inl rfl) _ _
     have hk3:KS (fun x=>x=g) w (((w.setCell ⟨g,i * 71+4,none⟩ (.bool false)).setCell ⟨g,i * 71+5,none⟩ (.bool true)).setCells g (i * 71+6) (zK.map fun b=>Value.bool b)):=KS.setCells (F:=fun x=>x=g) (.inl rfl) _ _ _ hk2
     obtain⟨hX,hk⟩:=HH.out.setRow hi ⟨⟨sq,⟨ab,an,aq⟩,false,true,zK,qu⟩,q,hh,zK_len⟩ hk3 O3.out (HQU.out.keep hk3 (fun x hx hF=>⟨.inl hF,fun h1 h2=>h2⟩))
     have hcs:(a.setRow i ⟨sq,⟨ab,an,aq⟩,false,true,zK,qu⟩)={ a with rows:=a.rows.set i ⟨sq,⟨ab,an,aq⟩,false,true,zK,qu⟩}:=by unfold Arb.setRow;rw[show(i:Int).toNat=i by omega]
     rw[hcs]
     exact⟨rfl,hX,hk⟩
    ·rw[if_pos (by simp[hs])]
     have hsb:(aq != s)=true:=by simpa using hs
     go_enter Tryz.func126,Tryz.ntmps126
     go_wp2
     go_ret
     exact⟨rfl,AB.out.keep (KS.refl (fun _=>False) _) (fun x _ h=>⟨.inl h,id⟩),KS.refl _ _⟩
end Go.Proofs.YtiebppkhaiofeaaGreat.K
