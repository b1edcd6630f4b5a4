/- Part of the proof of TopPolicies: what functions of the program do. -/
import Derived.Deep.MidRow
import Derived.Test.YtiebppkhaiofeaaGreatP09
import Derived.Test.YtiebppkhaiofeaaGreatP00
set_option maxHeartbeats 4000000
set_option maxRecDepth 100000
set_option linter.unusedVariables false
set_option linter.unusedSimpArgs false
open Go.IntKind renaming i64→I
open Go.Value renaming slice→J, int→V, bool→aA, pointer→bA
open Option renaming some→M, none→U
open Go.Obj renaming cells→O
open Go renaming Calls→bB, World→cA, bodyPost_ret→yA
open Go.Proofs.Tryz renaming prog→dA
open List renaming getElem?_eq_getElem→dB, replicate→uA
open Go.Proofs.YtiebppkhaiofeaaGreatW.PrintWords renaming below_alloc→eA, blk_lt→eB, blk_frozen→jA, blk_below→kA, blk_alloc→lA, blk_set→mA, blk_new→nA, blk_cell→oB
open Go.RowKit.Below renaming refl→fA, setCell→oA
open Nat renaming le_refl→pA
open Go.Proofs.YtiebppkhaiofeaaGreat.K.KS renaming below→pB, refl→qB
open And renaming intro→qA
open Go.World renaming size_alloc→rA
open Bool renaming false_eq_true→vA
namespace Go.Proofs.YtiebppkhaiofeaaGreat.K
open Go.RowKit Go.Proofs.YtiebppkhaiofeaaGreatW.PrintWords Go.Proofs.YtiebppkhaiofeaaGreat.S
attribute [local go_sem] World.cell?_alloc_some
open Go.ChangeMaps Go.MapKept
def rw_ (sq ab an aq:Int) (on en:Bool) (kn:List Bool) (qu:List Int) (q:Value) (hq:q.oneCell'=true) (hk:kn.length=64):ARowR:=⟨⟨sq,⟨ab,an,aq⟩,on,en,kn,qu⟩,q,hq,hk⟩
theorem set_q (p:ARowR) (q':Value) (hq:q'.oneCell'=true) (qu:List Int):arowC ⟨{ p.r with queue:=qu },q',hq,p.hk⟩=(arowC p).set 70 q':=by
 unfold arowC
 rw[List.set_append_right _ _ (by simp[p.hk])]
 simp[p.hk]
theorem rowE_tail {W:cA} {k o:Nat} {n:Int} {qs:List Int} (h:RowE intE W (M ⟨k,o,U⟩) (n :: qs)):RowE intE W (M ⟨k,o+1,U⟩) qs:=by
 intro i hi
 obtain⟨ad,e,hc⟩:=h (i+1) (by simpa using hi)
 injection e with e
 subst e
 refine⟨_,rfl,fun j hj=>?_⟩
 have:=hc j hj
 rw[Addr.add_lit] at this ⊢
 have hk:intE.k=1:=rfl
 rw[show o+1+(i * intE.k+j)=o+((i+1) * intE.k+j) by rw[hk];omega,this]
 simp
theorem OwnE.drew_ {α:Type} {E:El α} {xs:List α} {v:Value} {W:cA} (h:OwnE E v xs W):OwnE E v xs W.drew:=h.at_ (fun _ _=>rfl)
theorem OwnE.cell0 {α:Type} {E:El α} {xs:List α} {W:cA} {g cap i:Nat} (h:OwnE E (J (M ⟨g,0,U⟩) xs.length cap) xs W) (hi:i < xs.length) {y:α} (hy:xs.getD i E.d=y):OwnE E (J (M ⟨g,0,U⟩) xs.length cap) (xs.set i y) W:=by
 have:xs.set i y=xs:=by
  refine List.ext_getElem zB fun j h1 h2=>?_
  rw[List.getElem_set]
  split
  ·rename_i e;subst e;rw[<- hy];simp[List.getD,hi]
  ·rfl
 rw[this];exact h
theorem OwnE.cell2 {α:Type} {E:El α} {xs:List α} {W:cA} {g cap i:Nat} {y0:α} (h:OwnE E (J (M ⟨g,0,U⟩) xs.length cap) (xs.set i y0) W) (hi:i < xs.length) (j:Nat) (hj:j < E.k) (y:α) (u:Value) (hy:E.f y=(E.f y0).set j u):OwnE E (J (M ⟨g,0,U⟩) xs.length cap) (xs.set i y) (W.setCell ⟨g,i * E.k+j,U⟩ u):=by
 have hl:(xs.set i y0).length=xs.length:=by simp
 have h':OwnE E (J (M ⟨g,0,U⟩) (xs.set i y0).length cap) (xs.set i y0) W:=by rw[hl];exact h
 have:=h'.cell1 (i:=i) (j:=j) (by rw[hl];exact hi) hj y u (by rw[show(xs.set i y0).getD i E.d=y0 by simp[List.getD,hi]];exact hy)
 rw[hl,List.set_set] at this
 exact this
theorem own_frz {α:Type} {E:El α} {xs:List α} {W:cA} {g n cap:Nat} (h:OwnE E (J (M ⟨g,0,U⟩) n cap) xs W) (j:Nat):W.frozen? ⟨g,j,U⟩=false:=by
 rcases h.cases with ⟨e,_⟩ | ⟨g2,cap2,cur,e,hg,_⟩
 ·simp at e
 ·simp at e
  obtain⟨rfl,_⟩:=e
  exact jA hg j
theorem own_cells {α:Type} {E:El α} {xs:List α} {W:cA} {g cap i:Nat} {y:α} (h:OwnE E (J (M ⟨g,0,U⟩) xs.length cap) (xs.set i y) W) (hi:i < xs.length):∀ j,j < E.k->W.cell? ⟨g,i * E.k+j,U⟩=(E.f y)[j]?:=by
 have hl:(xs.set i y).length=xs.length:=by simp
 have h':OwnE E (J (M ⟨g,0,U⟩) (xs.set i y).length cap) (xs.set i y) W:=by rw[hl];exact h
 obtain⟨g',cap',e,_,_,_,hc⟩:=own_some h' (i:=i) (by rw[hl];exact hi)
 simp at e
 obtain⟨rfl,rfl⟩:=e
 rw[show(xs.set i y).getD i E.d=y by simp[List.getD,hi]] at hc
 exact hc
theorem arbNext_any {a:Arb} {b:Nat} {F:Set_} {w:cA} (hA:ArbX a b F w) {i:Nat} (hi0:i < a.rows.length):bB dA 149 #[bA (M ⟨b,0,U⟩),V I i] w (ArbP (actO (a.next i).2) (a.next i).1 b F w):=by
 have AB:=AS hA
 obtain⟨g,cap,rs,h⟩:=hA
 have hlen:=h.len
 have hi:i < rs.length:=vB
 have c1:=cw h.1 1 (v:=J (M ⟨g,0,U⟩) rs.length cap)
 have hcap:cap≤9223372036854775807:=by obtain⟨A,c,e,-,-,hm,-⟩:=h.2.1.row;simp at e;omega
 have hbl:=h.lt
 have hgl:=h.ltg
 obtain⟨g',cap',e,_,_,_,hc⟩:=own_some h.2.1 hi
 simp at e
 obtain⟨rfl,rfl⟩:=e
 have hrow:=h.row hi
 have hmem:rs.getD i arowE.d∈rs:=by simp[List.getD,hi]
 have hqu:=h.2.2.2.2.2.2.2.2.2 _ hmem
 generalize hx:rs.getD i arowE.d=x at *
 have HX:=AS hx
 have hnx:a.next i=if x.r.on∨x.r.ending then (a,U) else match x.r.queue with
   | []=>(a,U)
   | n :: q=>(a.setRow i { x.r with seq:=wrap64 (x.r.seq+1),active:=⟨i,n,wrap64 (x.r.seq+1)⟩,on:=true,queue:=q },M ⟨i,n,wrap64 (x.r.seq+1)⟩):=by
  unfold Arb.next Arb.row
  rw[show(i:Int).toNat=i by omega,hrow]
  rfl
 rw[hnx]
 have e0:w.cell? ⟨g,i * 71,U⟩=M (V I x.r.seq):=hc 0 yB
 have e1:w.cell? ⟨g,i * 71+1,U⟩=M (V I x.r.active.block):=hc 1 yB
 have e2:w.cell? ⟨g,i * 71+2,U⟩=M (V I x.r.active.node):=hc 2 yB
 have e3:w.cell? ⟨g,i * 71+3,U⟩=M (V I x.r.active.seq):=hc 3 yB
 have e4:w.cell? ⟨g,i * 71+4,U⟩=M (aA x.r.on):=hc 4 yB
 have e5:w.cell? ⟨g,i * 71+5,U⟩=M (aA x.r.ending):=hc 5 yB
 have e70:w.cell? ⟨g,i * 71+70,U⟩=M x.q:=(hc 70 yB).trans (arowC_q x)
 have HH:=AS h
 obtain⟨⟨sq,⟨ab,an,aq⟩,on,en,kn,qu⟩,q,hh,hk⟩:=x
 simp only at e0 e1 e2 e3 e4 e5 e70 hqu ⊢
 obtain⟨QA,qc,rfl,hqr,hq1,hq2,hq3,hq4⟩:=hqu
 have r0:(0:Int)≤(i:Int):=vB
 have r1:(i:Int) < (rs.length:Int):=vB
 clear hc h hrow hlen hi0 hnx hmem hx
 cases on
 case true =>
  rw[if_pos (.inl rfl)]
  go_enter Tryz.func149,Tryz.ntmps149
  go_wp2
  exact yA (v:=actO U) (by simp[results,Tryz.results149,go_sem,actO,actV,act0]) rfl ⟨rfl,(AB.out).keep (pB (fun _=>False) (by repeat (first | with_reducible exact fA _ _ | with_reducible apply eA | with_reducible refine oA ?_ (by dsimp only;omega) _))) (fun x _ h=>⟨.inl h,id⟩),pB _ (by repeat (first | with_reducible exact fA _ _ | with_reducible apply eA | with_reducible refine oA ?_ (by dsimp only;omega) _))⟩
 case false =>
  cases en
  case true =>
   rw[if_pos (.inr rfl)]
   go_enter Tryz.func149,Tryz.ntmps149
   go_wp2
   exact yA (v:=actO U) (by simp[results,Tryz.results149,go_sem,actO,actV,act0]) rfl ⟨rfl,(AB.out).keep (pB (fun _=>False) (by repeat (first | with_reducible exact fA _ _ | with_reducible apply eA | with_reducible refine oA ?_ (by dsimp only;omega) _))) (fun x _ h=>⟨.inl h,id⟩),pB _ (by repeat (first | with_reducible exact fA _ _ | with_reducible apply eA | with_reducible refine oA ?_ (by dsimp only;omega) _))⟩
  case false =>
   rw[if_neg zB]
   cases qu with
   | nil =>
    go_enter Tryz.func149,Tryz.ntmps149
    go_wp2
    exact yA (v:=actO U) (by simp[results,Tryz.results149,go_sem,actO,actV,act0]) rfl ⟨rfl,(AB.out).keep (pB (fun _=>False) (by repeat (first | with_reducible exact fA _ _ | with_reducible apply eA | with_reducible refine oA ?_ (by dsimp only;omega) _))) (fun x _ h=>⟨.inl h,id⟩),pB _ (by repeat (first | with_reducible exact fA _ _ | with_reducible apply eA | with_reducible refine oA ?_ (by dsimp only;omega) _))⟩
   | cons n qs =>
    obtain⟨ad,e,hcq⟩:=hqr 0 zB
    subst e
    obtain⟨qF,qb,qg,qsp,qlt⟩:=hq4 ad rfl
    obtain⟨qk,qo,qs_⟩:=ad
    simp only at qsp qF qb qg qlt
    subst qsp
    have f0:w.cell? ⟨qk,qo,U⟩=M (V I n):=by have:=hcq 0 yB;simpa [intE,Addr.add] using this
    have HQ:=AS hqr
    simp only[List.length_cons] at hq1 e70 hh ⊢
    have s1:(1:Int)≤((qs.length+1:Nat):Int):=vB
    have s2:((qs.length+1:Nat):Int)≤(qc:Int):=vB
    have HF:=AS (qA qF (qA qb qg))
    clear hcq hq4 hqr hq3
    go_enter Tryz.func149,Tryz.ntmps149
    go_upto_region 4 with fail
    have hB0:Below w.heap.size w (w.alloc (O #[V I 0,V I 0,V I 0] 55)):=eA (fA _ _) _
    obtain⟨hcl,-⟩:=bcell hB0
    have XR:=AS (nA w (O #[V I 0,V I 0,V I 0] 55))
    have BW:=AS hB0
    have OW:=AS ((HH.out.2.1.ks (pB (fun _=>False) hB0) (fun _ _=>id)).cell0 hi HX.out)
    have E0:=(hcl g (i * 71) hgl).trans e0
    have E5:=(hcl g (i * 71+5) hgl).trans e5
    have E70:=(hcl g (i * 71+70) hgl).trans e70
    have E1:=(hcl g (i * 71+1) hgl).trans e1
    have E2:=(hcl g (i * 71+2) hgl).trans e2
    have E3:=(hcl g (i * 71+3) hgl).trans e3
    have E4:=(hcl g (i * 71+4) hgl).trans e4
    have C1:=(hcl b 1 hbl).trans c1
    have hqlt:qk < w.heap.size:=HQ.out.lt zB
    have F0:=(hcl qk qo hqlt).trans f0
    have FZ:=fun j=>own_frz OW.out j
    clear e0 e1 e2 e3 e4 e5 e70 c1 f0 hB0 hcl
    generalize w.alloc (O #[V I 0,V I 0,V I 0] 55)=W at XR BW OW E0 E1 E2 E3 E4 E5 E70 C1 F0 FZ ⊢
    have hqg:qk≠g:=qg
    have hqg2:g≠qk:=Ne.symm qg
    go_upto_region 5 with fail
    go_cut [5] (fun v5 wx=>OwnE arowE (J (M ⟨g,0,U⟩) rs.length cap) (rs.set i (rw_ (wrap64 (sq+1)) i n (wrap64 (sq+1)) true false kn (n :: qs) (J (M ⟨qk,qo,U⟩) (qs.length+1) qc) hh hk)) wx/\KS (fun x=>x=g) W wx)
    case first =>
     have O1:=AS (OW.out.cell2 hi 0 yB (rw_ (wrap64 (sq+1)) ab an aq false false kn (n :: qs) (J (M ⟨qk,qo,U⟩) (qs.length+1) qc) hh hk) (V I (wrap64 (sq+1))) rfl)
     have K1:=AS ((qB (fun x=>x=g) W).set (g:=g) (.inl rfl) (i * 71) (V I (wrap64 (sq+1))))
     go_region
     all_goals
      go_wp2_with fail
      go_meet
      first
       | exact⟨OwnE.cell2 (OwnE.cell2 (OwnE.cell2 (OwnE.cell2 (O1.out.drew_) hi 1 yB (rw_ (wrap64 (sq+1)) i an aq false false kn (n :: qs) _ hh hk) _ rfl) hi 2 yB (rw_ (wrap64 (sq+1)) i n aq false false kn (n :: qs) _ hh hk) _ rfl) hi 3 yB (rw_ (wrap64 (sq+1)) i n (wrap64 (sq+1)) false false kn (n :: qs) _ hh hk) _ rfl) hi 4 yB (rw_ (wrap64 (sq+1)) i n (wrap64 (sq+1)) true false kn (n :: qs) _ hh hk) _ rfl,((((K1.out.drew).set (g:=g) (.inl rfl) _ _).set (g:=g) (.inl rfl) _ _).set (g:=g) (.inl rfl) _ _).set (g:=g) (.inl rfl) _ _⟩
       | exact⟨OwnE.cell2 (OwnE.cell2 (OwnE.cell2 (OwnE.cell2 (O1.out.drew_) hi 4 yB (rw_ (wrap64 (sq+1)) ab an aq true false kn (n :: qs) _ hh hk) _ rfl) hi 1 yB (rw_ (wrap64 (sq+1)) i an aq true false kn (n :: qs) _ hh hk) _ rfl) hi 2 yB (rw_ (wrap64 (sq+1)) i n aq true false kn (n :: qs) _ hh hk) _ rfl) hi 3 yB (rw_ (wrap64 (sq+1)) i n (wrap64 (sq+1)) true false kn (n :: qs) _ hh hk) _ rfl,((((K1.out.drew).set (g:=g) (.inl rfl) _ _).set (g:=g) (.inl rfl) _ _).set (g:=g) (.inl rfl) _ _).set (g:=g) (.inl rfl) _ _⟩
       | trace_state
    case rest =>
     obtain⟨hO5,hK5⟩:=hcut
     have O5:=AS hO5
     have K5:=AS hK5
     have cs:=own_cells hO5 hi
     have G1:wc.cell? ⟨g,i * 71+1,U⟩=M (V I i):=cs 1 yB
     have G2:wc.cell? ⟨g,i * 71+2,U⟩=M (V I n):=cs 2 yB
     have G3:wc.cell? ⟨g,i * 71+3,U⟩=M (V I (wrap64 (sq+1))):=cs 3 yB
     have G70:wc.cell? ⟨g,i * 71+70,U⟩=M (J (M ⟨qk,qo,U⟩) (qs.length+1) qc):=(cs 70 yB).trans (arowC_q _)
     have GZ:=fun j=>own_frz hO5 j
     have XR5:=AS (hK5.at_ XR.out (by show ¬ w.heap.size=g;omega))
     have hsz:=K5.out.size
     clear hO5 hK5 cs E0 E1 E2 E3 E4 E5 E70 C1 F0 FZ OW XR
     have z0:=cw XR5.out 0 (v:=V I 0)
     have z1:=cw XR5.out 1 (v:=V I 0)
     have z2:=cw XR5.out 2 (v:=V I 0)
     have zz0:=jA XR5.out 0
     have zz1:=jA XR5.out 1
     have zz2:=jA XR5.out 2
     have hwg:w.heap.size≠g:=vB
     have hwg2:g≠w.heap.size:=vB
     have KW:=AS (show KS (fun x=>x=g) w wc from(pB _ BW.out).trans K5.out (fun _ _ h=>h))
     have FINI:=AS (show ∀ (A:Option Addr) (cp:Nat),RowE intE wc A qs->qs.length≤cp->cp≤9223372036854775807->(A=U->qs=[])->(∀ ad,A=M ad->ad.block=qk/\ad.spot=U) ->
       ArbX (a.setRow i ⟨wrap64 (sq+1),⟨i,n,wrap64 (sq+1)⟩,true,false,kn,qs⟩) b (gr F w) ((((wc.setCell ⟨g,i * 71+70,U⟩ (J A qs.length cp)).setCell ⟨w.heap.size,0,U⟩ (V I i)).setCell ⟨w.heap.size,1,U⟩ (V I n)).setCell ⟨w.heap.size,2,U⟩ (V I (wrap64 (sq+1))))/\KS F w ((((wc.setCell ⟨g,i * 71+70,U⟩ (J A qs.length cp)).setCell ⟨w.heap.size,0,U⟩ (V I i)).setCell ⟨w.heap.size,1,U⟩ (V I n)).setCell ⟨w.heap.size,2,U⟩ (V I (wrap64 (sq+1)))) from by
      intro A cp hr p1 p2 p3 p4
      have hO6:=O5.out.cell2 hi 70 yB ⟨⟨wrap64 (sq+1),⟨i,n,wrap64 (sq+1)⟩,true,false,kn,qs⟩,J A qs.length cp,rfl,hk⟩ (J A qs.length cp) (set_q (rw_ (wrap64 (sq+1)) i n (wrap64 (sq+1)) true false kn (n :: qs) (J (M ⟨qk,qo,U⟩) (qs.length+1) qc) hh hk) (J A qs.length cp) rfl qs)
      have hk7:=((((KW.out.set (g:=g) (.inl rfl) (i * 71+70) (J A qs.length cp)).set (g:=w.heap.size) (.inr (pA _)) 0 (V I i)).set (g:=w.heap.size) (.inr (pA _)) 1 (V I n)).set (g:=w.heap.size) (.inr (pA _)) 2 (V I (wrap64 (sq+1))))
      have hk8:=(((qB (fun x=>x=w.heap.size) (wc.setCell ⟨g,i * 71+70,U⟩ (J A qs.length cp))).set (g:=w.heap.size) (.inl rfl) 0 (V I i)).set (g:=w.heap.size) (.inl rfl) 1 (V I n)).set (g:=w.heap.size) (.inl rfl) 2 (V I (wrap64 (sq+1)))
      have hk9:=((((qB (fun x=>x=g∨x=w.heap.size) wc).set (g:=g) (.inl (.inl rfl)) (i * 71+70) (J A qs.length cp)).set (g:=w.heap.size) (.inl (.inr rfl)) 0 (V I i)).set (g:=w.heap.size) (.inl (.inr rfl)) 1 (V I n)).set (g:=w.heap.size) (.inl (.inr rfl)) 2 (V I (wrap64 (sq+1)))
      exact HH.out.setRow hi ⟨⟨wrap64 (sq+1),⟨i,n,wrap64 (sq+1)⟩,true,false,kn,qs⟩,J A qs.length cp,rfl,hk⟩ hk7 (hO6.ks hk8 (fun x hx e=>hwg2 ((by simpa [foot_slice] using hx:x=g).symm.trans e))) ⟨A,cp,rfl,hr.ks hk9 (fun ad e=>by
        rw[(p4 ad e).1]
        rintro(h | h)
        ·exact hqg h
        ·omega),p1,p2,p3,fun ad e=>by rw[(p4 ad e).1];exact⟨.inl HF.out.1,HF.out.2.1,HF.out.2.2,(p4 ad e).2,Nat.lt_of_lt_of_le hqlt hk7.size⟩⟩)
     have HQ5:=AS (HQ.out.ks KW.out (fun ad e=>by injection e with e;subst e;exact hqg))
     go_upto_region 6 with fail
     by_cases hqc:qc=1
     ·have hql:qs=[]:=by cases qs with | nil=>rfl | cons x xs=>simp at hq1;omega
      subst hql
      subst hqc
      simp only[List.length_nil,Nat.zero_add] at s1 s2 G70 hh ⊢
      go_wp2
      refine yA (v:=actO (M ⟨i,n,wrap64 (sq+1)⟩)) (by simp[results,Tryz.results149,go_sem,actO,actV,z0,z1,z2,hwg,hwg2]) rfl ⟨rfl,FINI.out (M ⟨qk,qo,U⟩) 0 (fun j hj=>by simp at hj) zB vB zB (fun ad e=>by injection e with e;subst e;exact⟨rfl,rfl⟩)⟩
     ·have s3:(1:Int) < (qc:Int):=vB
      go_wp2
      refine yA (v:=actO (M ⟨i,n,wrap64 (sq+1)⟩)) (by simp[results,Tryz.results149,go_sem,actO,actV,z0,z1,z2,hwg,hwg2]) rfl ⟨rfl,FINI.out (M ⟨qk,qo+1,U⟩) (qc - 1) (rowE_tail HQ5.out) vB vB zB (fun ad e=>by injection e with e;subst e;exact⟨rfl,rfl⟩)⟩
theorem quOk_fresh {F:Set_} {b g:Nat} {v:Value} {xs:List Int} {w3:cA} (hO:OwnE intE v xs w3) (hf:∀ x∈foot v,F x/\x≠b/\x≠g) (j:Nat) (u:Value):QuOk F b g v xs (w3.setCell ⟨g,j,U⟩ u):=by
 have hO':OwnE intE v xs (w3.setCell ⟨g,j,U⟩ u):=hO.at_ fun x hx=>Below.heap_setCell w3 ⟨g,j,U⟩ u x (hf x hx).2.2
 obtain⟨A,c,rfl,hr,h1,h2,h3⟩:=hO'.row
 refine⟨A,c,rfl,hr,h1,h2,h3,fun ad e=>?_⟩
 subst e
 rcases hO'.cases with ⟨e,_⟩ | ⟨g',cap,cur,e,hg,_⟩
 ·simp at e
 ·simp at e
  obtain⟨rfl,rfl⟩:=e
  have:=hf g' (by simp[foot_slice])
  exact⟨this.1,this.2.1,this.2.2,rfl,eB hg⟩
theorem arb_is (a:Arb) {rs:List ARowR} (h:rs.length=a.rows.length) (k n:Int):(decide (k≥0) && decide (k < rs.length) && decide (n≥0) && decide (n < a.nodes))=a.is k n:=by rw[h];rfl
theorem arbAsk_any {a:Arb} {b:Nat} {F:Set_} {w:cA} (hA:ArbX a b F w) (k n:Int) (hql:∀ r∈a.rows,r.queue.length≤1000000):bB dA 125 #[bA (M ⟨b,0,U⟩),V I k,V I n] w (ArbP (actO (a.ask k n).2) (a.ask k n).1 b F w):=by
 have AB:=AS hA
 obtain⟨g,cap,rs,h⟩:=hA
 have hlen:=h.len
 have hask:a.ask k n=if a.is k n then (a.setRow k { a.row k with queue:=(a.row k).queue ++ [n]}).next k else (a,U):=rfl
 rw[hask]
 have hB0:Below w.heap.size w (w.alloc (O #[V I 0,V I 0,V I 0] 55)):=eA (fA _ _) _
 have HB:=AS (lA h.1 (O #[V I 0,V I 0,V I 0] 55))
 have his:=arb_is a hlen k n
 cases hi:a.is k n
 case false =>
  rw[hi] at his
  simp only[vA,if_false]
  clear hask hi h hlen hB0 hql
  go_enter Tryz.func125,Tryz.ntmps125
  go_wp2_with fail
  refine(arbIs_any HB.out k n).mono ?_
  rintro e w1 ⟨rfl,rfl⟩
  rw[his]
  go_wp2
  exact yA (v:=actO U) (by simp[results,Tryz.results125,go_sem,actO,actV,act0]) rfl ⟨rfl,(AB.out).keep (pB (fun _=>False) (by repeat (first | with_reducible exact fA _ _ | with_reducible apply eA | with_reducible refine oA ?_ (by dsimp only;omega) _))) (fun x _ h=>⟨.inl h,id⟩),pB _ (by repeat (first | with_reducible exact fA _ _ | with_reducible apply eA | with_reducible refine oA ?_ (by dsimp only;omega) _))⟩
 case true =>
  rw[hi] at his
  simp only[if_true]
  obtain⟨i,rfl,hil⟩:∃ i:Nat,k=i/\i < rs.length:=by
   unfold Arb.is at hi
   simp at hi
   exact⟨k.toNat,vB,vB⟩
  have hHW:ArbB a b g cap rs (fun x=>F x/\x < w.heap.size) (w.alloc (O #[V I 0,V I 0,V I 0] 55)):=h.keep (pB (fun _=>False) hB0) (fun x hl hx=>⟨⟨hx,hl⟩,id⟩)
  have HHW:=AS hHW
  have hbl:=h.lt
  have hgl:=h.ltg
  have hcap:cap≤9223372036854775807:=by obtain⟨A,c,e,-,-,hm,-⟩:=h.2.1.row;simp at e;omega
  have hrow:=h.row hil
  have hmem:rs.getD i arowE.d∈rs:=by simp[List.getD,hil]
  have hqu:=hHW.2.2.2.2.2.2.2.2.2 _ hmem
  have hql1:(rs.getD i arowE.d).r.queue.length≤1000000:=hql _ (by rw[<- h.2.2.1];exact List.mem_map_of_mem hmem)
  have HRW:=AS (show a.row i=(rs.getD i arowE.d).r by unfold Arb.row;rw[show(i:Int).toNat=i by omega,hrow])
  generalize hx:rs.getD i arowE.d=x at *
  have HX:=AS hx
  obtain⟨⟨sq,⟨ab,an,aq⟩,on,en,kn,qu⟩,q,hh,hk⟩:=x
  obtain⟨QA,qc,hqe,hqr,hq1,hq2,hq3,hq4⟩:=hqu
  simp only at hqe
  subst hqe
  simp only at hqr hq1 hq2 hq3 hq4 hql1
  rw[HRW.out]
  simp only
  have XR:=AS (nA w (O #[V I 0,V I 0,V I 0] 55))
  have BW:=AS hB0
  have hi0:i < a.rows.length:=vB
  have OW:=AS (hHW.2.1.cell0 hil hx)
  have CL:=AS (show ∀ W1:cA,Below (w.alloc (O #[V I 0,V I 0,V I 0] 55)).heap.size (w.alloc (O #[V I 0,V I 0,V I 0] 55)) W1->W1.cell? ⟨b,1,U⟩=M (J (M ⟨g,0,U⟩) rs.length cap)/\OwnE arowE (J (M ⟨g,0,U⟩) rs.length cap) (rs.set i ⟨⟨sq,⟨ab,an,aq⟩,on,en,kn,qu⟩,J QA qu.length qc,hh,hk⟩) W1 from fun W1 hb=>⟨cw (kA hHW.1 hb) 1,OW.out.ks (pB (fun _=>False) hb) (fun _ _=>id)⟩)
  have r0:(0:Int)≤(i:Int):=vB
  have r1:(i:Int) < (rs.length:Int):=vB
  have HC:=AS (cloneI_any (c:=qc) hqr hq3 (show _ * 8≤_ by omega))
  have C1:(w.alloc (O #[V I 0,V I 0,V I 0] 55)).cell? ⟨b,1,U⟩=M (J (M ⟨g,0,U⟩) rs.length cap):=(CL.out _ (fA _ _)).1
  have E70:(w.alloc (O #[V I 0,V I 0,V I 0] 55)).cell? ⟨g,i * 71+70,U⟩=M (J QA qu.length qc):=(own_cells OW.out hil 70 yB).trans (arowC_q _)
  have hsz:(w.alloc (O #[V I 0,V I 0,V I 0] 55)).heap.size=w.heap.size+1:=by simp
  clear h hHW hask hi hlen hql hrow hmem hx hqr hq1 hq3 hq4
  go_enter Tryz.func125,Tryz.ntmps125
  go_wp2_with fail
  refine(arbIs_any HB.out i n).mono ?_
  rintro e w1 ⟨rfl,rfl⟩
  rw[his]
  generalize w.alloc (O #[V I 0,V I 0,V I 0] 55)=W at HB HHW XR BW OW CL HC C1 E70 hsz ⊢
  go_wp2_with fail
  refine HC.out.mono ?_
  rintro e w2 ⟨v,rfl,hO,hf,hb⟩
  obtain⟨A1,n1,k1,rfl⟩:∃ A n c,v=J A n c:=(by obtain⟨A,c,h,_⟩:=OwnE.row hO;exact⟨_,_,_,h⟩)
  have O2:=AS (hO.ks (pB (fun _=>False) (eA (fA _ w2) (O #[V I n] 3))) (fun _ _=>id))
  have F2:=AS hf
  have R2:=AS (rowE_one (E:=intE) (x:=n) (nA w2 (O #[V I n] 3)))
  have B2:=AS (show Below W.heap.size W (w2.alloc (O #[V I n] 3)) from eA hb _)
  have hs2:=hb.size
  clear hO hf hb HC
  go_wp2_with (at_builtin;refine list_appE (E:=intE) (xs:=qu) (ys:=[n]) xB _ _ rfl rfl rfl rfl (by exact O2.out) (by exact R2.out) (by show _ * 8≤_;simp;omega) ?_;intro v3 w3 hO hK hf;obtain⟨A3,n3,k3,rfl⟩:∃ A n c,v3=J A n c:=(by obtain⟨A,c,h,_⟩:=OwnE.row hO;exact⟨_,_,_,h⟩);have O3:=AS hO;have K3:=AS (show Below W.heap.size W w3 from B2.out.trans (hK.toBelow F2.out (by have:=B2.out.size;simpa using this)));have F3:Aside0 (foot (J A3 n3 k3)=foot (J A1 n1 k1)∨foot (J A3 n3 k3)=[w2.heap.size+1]):=⟨hf.imp id (fun e=>e.trans zB)⟩;clear hO hK hf;have W3:=AS (CL.out w3 K3.out);have c1':=W3.out.1;have gz:=fun j=>own_frz W3.out.2 j;have e70':w3.cell? ⟨g,i * 71+70,U⟩=M (J QA qu.length qc):=(own_cells W3.out.2 hil 70 yB).trans (arowC_q _))
  have hoc:(Value.slice A3 n3 k3).oneCell'=true:=rfl
  have hO4:=W3.out.2.cell2 hil 70 yB ⟨⟨sq,⟨ab,an,aq⟩,on,en,kn,qu ++ [n]⟩,J A3 n3 k3,hoc,hk⟩ (J A3 n3 k3) (set_q ⟨⟨sq,⟨ab,an,aq⟩,on,en,kn,qu⟩,J QA qu.length qc,hh,hk⟩ (J A3 n3 k3) hoc (qu ++ [n]))
  have hfr:∀ x∈foot (J A3 n3 k3),W.heap.size≤x:=by
   intro x hx
   rcases F3.out with e | e
   ·rw[e] at hx;exact F2.out x hx
   ·rw[e] at hx;simp at hx;omega
  obtain⟨hX4,hk4⟩:=HHW.out.setRow (w':=w3.setCell ⟨g,i * 71+70,U⟩ (J A3 n3 k3)) hil ⟨⟨sq,⟨ab,an,aq⟩,on,en,kn,qu ++ [n]⟩,J A3 n3 k3,hoc,hk⟩ ((pB (fun x=>x=g) K3.out).set (g:=g) (.inl rfl) (i * 71+70) (J A3 n3 k3)) hO4 (quOk_fresh O3.out (fun x hx=>by have:=hfr x hx;exact⟨.inr this,vB,vB⟩) _ _)
  have X4:=AS hX4
  have H4:=AS hk4
  have XR4:=AS (hk4.at_ XR.out (notP0 (pA _)))
  clear hX4 hk4 hO4 c1' gz e70' C1 E70
  generalize w3.setCell ⟨g,i * 71+70,U⟩ (J A3 n3 k3)=w4 at X4 H4 XR4 ⊢
  have HN:=AS (arbNext_any X4.out (i:=i) (by simpa using hi0))
  have hcs:(a.setRow i ⟨sq,⟨ab,an,aq⟩,on,en,kn,qu ++ [n]⟩)={ a with rows:=a.rows.set i ⟨sq,⟨ab,an,aq⟩,on,en,kn,qu ++ [n]⟩}:=by unfold Arb.setRow;rw[show(i:Int).toNat=i by omega]
  rw[<- hcs] at HN
  generalize (a.setRow i ⟨sq,⟨ab,an,aq⟩,on,en,kn,qu ++ [n]⟩).next i=nx at *
  obtain⟨nx1,nx2⟩:=nx
  have HAV:=AS (show actO nx2=.tuple #[.agg #[V I (nx2.getD act0).block,V I (nx2.getD act0).node,V I (nx2.getD act0).seq],aA nx2.isSome] from rfl)
  refine HN.out.mono ?_
  rintro e w5 ⟨rfl,hX5,hk5⟩
  simp only
  rw[HAV.out]
  generalize (nx2.getD act0).block=m1 at *
  generalize (nx2.getD act0).node=m2 at *
  generalize (nx2.getD act0).seq=m3 at *
  generalize nx2.isSome=m4 at *
  have NB:=AS (notGr (P:=(fun x=>F x/\x < w.heap.size)) (W:=W) (notP0 (pA w.heap.size)) (eB XR.out))
  have X5:=AS hX5
  have XR5:=AS (hk5.at_ XR4.out NB.out)
  have NB5:=AS (notGr (W:=w4) NB.out (eB XR4.out))
  have CH5:=AS ((((Ch.refl F w).below BW.out).op H4.out).op hk5)
  clear hX5 hk5 HN hcs
  have z0:=cw XR5.out 0 (v:=V I 0)
  have z1:=cw XR5.out 1 (v:=V I 0)
  have z2:=cw XR5.out 2 (v:=V I 0)
  have zz0:=jA XR5.out 0
  have zz1:=jA XR5.out 1
  have zz2:=jA XR5.out 2
  go_wp2
  have hk6:=((((qB (fun x=>x=w.heap.size) w5).set (g:=w.heap.size) (.inl rfl) 0 (V I m1)).set (g:=w.heap.size) (.inl rfl) 1 (V I m2)).set (g:=w.heap.size) (.inl rfl) 2 (V I m3))
  have hch:=(((CH5.out.set (pA _) 0 (V I m1)).set (pA _) 1 (V I m2)).set (pA _) 2 (V I m3))
  refine yA (v:=.tuple #[.agg #[V I m1,V I m2,V I m3],aA m4]) (by simp[results,Tryz.results125,go_sem,z0,z1,z2]) rfl ⟨by rw[HAV.out],?_,hch.1⟩
  exact X5.out.keep hk6 (fun x _ hx=>⟨hch.2 x hx,fun e=>NB5.out (e ▸ hx)⟩)
theorem arbNew_any (nn nb:Int) (w:cA):bB dA 47 #[V I nn,V I nb] w fun e w'=>∃ b,e=.returned (bA (M ⟨b,0,U⟩))/\ArbX (Arb.new nn nb) b (nw w) w'/\Below w.heap.size w w':=by
 have hA:Arb.new nn nb=⟨min (max nn 0) 64,uA (min (max nb 0) 64).toNat ar0⟩:=rfl
 rw[hA]
 clear hA
 have h1:(nn < 0/\min (max nn 0) 64=0)∨(¬ nn < 0/\¬ 64 < nn/\min (max nn 0) 64=nn)∨(¬ nn < 0/\64 < nn/\min (max nn 0) 64=64):=vB
 have h2:(nb < 0/\min (max nb 0) 64=((0:Nat):Int))∨(¬ nb < 0/\¬ 64 < nb/\∃ n:Nat,n≤64/\nb=n/\min (max nb 0) 64=n)∨(¬ nb < 0/\64 < nb/\min (max nb 0) 64=((64:Nat):Int)):=by
  by_cases q1:nb < 0
  ·exact .inl ⟨q1,vB⟩
  ·by_cases q2:64 < nb
   ·exact .inr (.inr ⟨q1,q2,vB⟩)
   ·exact .inr (.inl ⟨q1,q2,nb.toNat,vB,vB,vB⟩)
 have FIN:=AS (show ∀ (m:Int) (n:Nat),0≤m->m≤64->n≤64->ArbX ⟨m,uA n ar0⟩ (w.heap.size+1) (nw w) ((w.alloc (O (flat arowE (uA n arowE.d)).toArray arowE.T)).alloc (O #[V I m,J (M ⟨w.heap.size,0,U⟩) n n] 172))/\Below w.heap.size w ((w.alloc (O (flat arowE (uA n arowE.d)).toArray arowE.T)).alloc (O #[V I m,J (M ⟨w.heap.size,0,U⟩) n n] 172)) from by
  intro m n hm0 hm1 hn
  have hO:=ownE_made (E:=arowE) n (by show _ * 128≤_;omega) w
  refine⟨⟨w.heap.size,n,uA n arowE.d,?_,?_,?_,vB,by show w.heap.size≤_;omega,pA _,hm0,hm1,by simpa using hn,?_⟩,eA (eA (fA _ _) _) _⟩
  ·have:=nA (w.alloc (O (flat arowE (uA n arowE.d)).toArray arowE.T)) (O #[V I m,J (M ⟨w.heap.size,0,U⟩) n n] 172)
   rw[rA] at this
   rw[List.length_replicate];exact this
  ·rw[List.length_replicate]
   exact hO.ks (pB (fun _=>False) (eA (fA _ _) _)) (fun _ _=>id)
  ·simp[arowE]
  ·intro p hp
   rw[List.eq_of_mem_replicate hp]
   exact⟨U,0,rfl,fun j hj=>by simp[arowE,ar0] at hj,by simp[arowE,ar0],vB,fun _=>rfl,fun ad e=>by simp at e⟩)
 have M0:=fun n (hn:n≤64)=>run_makeE (E:=arowE) n (by show _ * 128≤_;omega) w
 rcases h1 with ⟨a1,h1⟩ | ⟨a1,a2,h1⟩ | ⟨a1,a2,h1⟩
 ·rw[h1]
  rcases h2 with ⟨b1,h2⟩ | ⟨b1,b2,n,hn,rfl,h2⟩ | ⟨b1,b2,h2⟩
  ·rw[h2]
   simp only[Int.toNat_natCast]
   have FI:=AS (FIN.out (0) 0 vB vB vB)
   have mk:(Instr.makeSlice 170 (V I 0) (V I 0)).run dA w=.ok (J (M ⟨w.heap.size,0,U⟩) 0 0) (w.alloc (O (flat arowE (uA 0 arowE.d)).toArray arowE.T)):=(M0 0 vB)
   clear FIN M0 h1 h2
   generalize (Obj.cells (flat arowE (uA 0 arowE.d)).toArray arowE.T)=ob at *
   go_enter Tryz.func47,Tryz.ntmps47
   go_wp2
   go_ret
   exact⟨_,rfl,FI.out⟩
  ·rw[h2]
   simp only[Int.toNat_natCast]
   have FI:=AS (FIN.out (0) n vB vB hn)
   have mk:(Instr.makeSlice 170 (V I (n:Int)) (V I (n:Int))).run dA w=.ok (J (M ⟨w.heap.size,0,U⟩) n n) (w.alloc (O (flat arowE (uA n arowE.d)).toArray arowE.T)):=(M0 n hn)
   clear FIN M0 h1 h2
   generalize (Obj.cells (flat arowE (uA n arowE.d)).toArray arowE.T)=ob at *
   go_enter Tryz.func47,Tryz.ntmps47
   go_wp2
   go_ret
   exact⟨_,rfl,FI.out⟩
  ·rw[h2]
   simp only[Int.toNat_natCast]
   have FI:=AS (FIN.out (0) 64 vB vB vB)
   have mk:(Instr.makeSlice 170 (V I 64) (V I 64)).run dA w=.ok (J (M ⟨w.heap.size,0,U⟩) 64 64) (w.alloc (O (flat arowE (uA 64 arowE.d)).toArray arowE.T)):=(M0 64 vB)
   clear FIN M0 h1 h2
   generalize (Obj.cells (flat arowE (uA 64 arowE.d)).toArray arowE.T)=ob at *
   go_enter Tryz.func47,Tryz.ntmps47
   go_wp2
   go_ret
   exact⟨_,rfl,FI.out⟩
 ·rw[h1]
  rcases h2 with ⟨b1,h2⟩ | ⟨b1,b2,n,hn,rfl,h2⟩ | ⟨b1,b2,h2⟩
  ·rw[h2]
   simp only[Int.toNat_natCast]
   have FI:=AS (FIN.out (nn) 0 vB vB vB)
   have mk:(Instr.makeSlice 170 (V I 0) (V I 0)).run dA w=.ok (J (M ⟨w.heap.size,0,U⟩) 0 0) (w.alloc (O (flat arowE (uA 0 arowE.d)).toArray arowE.T)):=(M0 0 vB)
   clear FIN M0 h1 h2
   generalize (Obj.cells (flat arowE (uA 0 arowE.d)).toArray arowE.T)=ob at *
   go_enter Tryz.func47,Tryz.ntmps47
   go_wp2
   go_ret
   exact⟨_,rfl,FI.out⟩
  ·rw[h2]
   simp only[Int.toNat_natCast]
   have FI:=AS (FIN.out (nn) n vB vB hn)
   have mk:(Instr.makeSlice 170 (V I (n:Int)) (V I (n:Int))).run dA w=.ok (J (M ⟨w.heap.size,0,U⟩) n n) (w.alloc (O (flat arowE (uA n arowE.d)).toArray arowE.T)):=(M0 n hn)
   clear FIN M0 h1 h2
   generalize (Obj.cells (flat arowE (uA n arowE.d)).toArray arowE.T)=ob at *
   go_enter Tryz.func47,Tryz.ntmps47
   go_wp2
   go_ret
   exact⟨_,rfl,FI.out⟩
  ·rw[h2]
   simp only[Int.toNat_natCast]
   have FI:=AS (FIN.out (nn) 64 vB vB vB)
   have mk:(Instr.makeSlice 170 (V I 64) (V I 64)).run dA w=.ok (J (M ⟨w.heap.size,0,U⟩) 64 64) (w.alloc (O (flat arowE (uA 64 arowE.d)).toArray arowE.T)):=(M0 64 vB)
   clear FIN M0 h1 h2
   generalize (Obj.cells (flat arowE (uA 64 arowE.d)).toArray arowE.T)=ob at *
   go_enter Tryz.func47,Tryz.ntmps47
   go_wp2
   go_ret
   exact⟨_,rfl,FI.out⟩
 ·rw[h1]
  rcases h2 with ⟨b1,h2⟩ | ⟨b1,b2,n,hn,rfl,h2⟩ | ⟨b1,b2,h2⟩
  ·rw[h2]
   simp only[Int.toNat_natCast]
   have FI:=AS (FIN.out (64) 0 vB vB vB)
   have mk:(Instr.makeSlice 170 (V I 0) (V I 0)).run dA w=.ok (J (M ⟨w.heap.size,0,U⟩) 0 0) (w.alloc (O (flat arowE (uA 0 arowE.d)).toArray arowE.T)):=(M0 0 vB)
   clear FIN M0 h1 h2
   generalize (Obj.cells (flat arowE (uA 0 arowE.d)).toArray arowE.T)=ob at *
   go_enter Tryz.func47,Tryz.ntmps47
   go_wp2
   go_ret
   exact⟨_,rfl,FI.out⟩
  ·rw[h2]
   simp only[Int.toNat_natCast]
   have FI:=AS (FIN.out (64) n vB vB hn)
   have mk:(Instr.makeSlice 170 (V I (n:Int)) (V I (n:Int))).run dA w=.ok (J (M ⟨w.heap.size,0,U⟩) n n) (w.alloc (O (flat arowE (uA n arowE.d)).toArray arowE.T)):=(M0 n hn)
   clear FIN M0 h1 h2
   generalize (Obj.cells (flat arowE (uA n arowE.d)).toArray arowE.T)=ob at *
   go_enter Tryz.func47,Tryz.ntmps47
   go_wp2
   go_ret
   exact⟨_,rfl,FI.out⟩
  ·rw[h2]
   simp only[Int.toNat_natCast]
   have FI:=AS (FIN.out (64) 64 vB vB vB)
   have mk:(Instr.makeSlice 170 (V I 64) (V I 64)).run dA w=.ok (J (M ⟨w.heap.size,0,U⟩) 64 64) (w.alloc (O (flat arowE (uA 64 arowE.d)).toArray arowE.T)):=(M0 64 vB)
   clear FIN M0 h1 h2
   generalize (Obj.cells (flat arowE (uA 64 arowE.d)).toArray arowE.T)=ob at *
   go_enter Tryz.func47,Tryz.ntmps47
   go_wp2
   go_ret
   exact⟨_,rfl,FI.out⟩
theorem setCells_blk {g T:Nat}:∀ (vs:List Value) (off:Nat) (cur:Array Value) (W:cA),W.heap[g]?=M (O cur T (0,0))->off+vs.length≤cur.size->∃ cur':Array Value,(W.setCells g off vs).heap[g]?=M (O cur' T (0,0))/\cur'.size=cur.size/\∀ j,cur'[j]?=if off≤j/\j < off+vs.length then vs[j - off]? else cur[j]?:=by
 intro vs
 induction vs with
 | nil =>
  intro off cur W h hl
  refine⟨cur,h,rfl,fun j=>?_⟩
  rw[if_neg zB]
 | cons v vs ih =>
  intro off cur W h hl
  simp only[List.length_cons] at hl
  obtain⟨cur',h1,h2,h3⟩:=ih (off+1) (cur.setIfInBounds off v) (W.setCell ⟨g,off,U⟩ v) (mA h off v) (by simp;omega)
  refine⟨cur',h1,by simpa using h2,fun j=>?_⟩
  rw[h3 j,get_set']
  simp only[List.length_cons]
  by_cases a1:off+1≤j/\j < off+1+vs.length
  ·rw[if_pos a1,if_pos vB,show j - off=(j - (off+1))+1 by omega,List.getElem?_cons_succ]
  ·rw[if_neg a1]
   by_cases a2:off=j
   ·subst a2
    rw[if_pos rfl,if_pos vB,if_pos vB]
    simp
   ·rw[if_neg a2,if_neg vB]
theorem KS.setCells {F:Set_} {w:cA} {g:Nat} (hg:F g∨w.heap.size≤g):∀ (vs:List Value) (off:Nat) (W:cA),KS F w W->KS F w (W.setCells g off vs):=by
 intro vs
 induction vs with
 | nil=>intro off W h;exact h
 | cons v vs ih=>intro off W h;exact ih (off+1) _ (h.set hg off v)
theorem OwnE.cells2 {α:Type} {E:El α} {xs:List α} {W:cA} {g cap i:Nat} {y0:α} (h:OwnE E (J (M ⟨g,0,U⟩) xs.length cap) (xs.set i y0) W) (hi:i < xs.length) (j:Nat) (vs:List Value) (hj:j+vs.length≤E.k) (y:α) (hy:∀ q,q < E.k->(E.f y)[q]?=if j≤q/\q < j+vs.length then vs[q - j]? else (E.f y0)[q]?):OwnE E (J (M ⟨g,0,U⟩) xs.length cap) (xs.set i y) (W.setCells g (i * E.k+j) vs):=by
 have hcs:=own_cells h hi
 have hl:(xs.set i y0).length=xs.length:=by simp
 have h':OwnE E (J (M ⟨g,0,U⟩) (xs.set i y0).length cap) (xs.set i y0) W:=by rw[hl];exact h
 have hkk:i * E.k+E.k≤xs.length * E.k:=by rw[<- Nat.succ_mul];exact Nat.mul_le_mul_right _ hi
 have:=h'.setElem (i:=i) (by rw[hl];exact hi) y (W':=W.setCells g (i * E.k+j) vs) fun cur hg hs=>by
  rw[hl] at hs
  obtain⟨cur',k1,k2,k3⟩:=setCells_blk vs (i * E.k+j) cur W hg vB
  refine⟨cur',k1,k2,fun q hq=>?_⟩
  rw[k3 q]
  by_cases hr:i * E.k≤q/\q < i * E.k+E.k
  ·rw[if_pos hr,hy (q - i * E.k) vB]
   have hc:=hcs (q - i * E.k) vB
   rw[oB hg,show i * E.k+(q - i * E.k)=q by omega] at hc
   by_cases ha:i * E.k+j≤q/\q < i * E.k+j+vs.length
   ·rw[if_pos ha,if_pos vB,show q - i * E.k - j=q - (i * E.k+j) by omega]
   ·rw[if_neg ha,if_neg vB,hc]
  ·rw[if_neg hr,if_neg vB]
 rw[hl,List.set_set] at this
 exact this
theorem set_k (p:ARowR) (kn:List Bool) (hkn:kn.length=64) (q:Nat) (hq:q < 71):(arowC ⟨{ p.r with knows:=kn },p.q,p.h,hkn⟩)[q]?=if 6≤q/\q < 6+(kn.map (fun b=>Value.bool b)).length then (kn.map (fun b=>Value.bool b))[q - 6]? else (arowC p)[q]?:=by
 have hp:=p.hk
 unfold arowC
 simp only[List.length_map,hkn]
 by_cases h1:q < 6
 ·rw[if_neg vB,List.getElem?_append_left (by simp;omega),List.getElem?_append_left (by simp;omega),List.getElem?_append_left (by simp[hp];omega),List.getElem?_append_left (by simp;omega)]
 ·by_cases h2:q < 70
  ·rw[if_pos vB,List.getElem?_append_left (by simp[hkn];omega),List.getElem?_append_right (by simp;omega)]
   simp
  ·have h3:q=70:=vB
   subst h3
   rw[if_neg vB,List.getElem?_append_right (by simp[hkn]),List.getElem?_append_right (by simp[hp])]
   simp[hkn,hp]
def bsV (bs:List Bool):Value:=.agg (bs.map fun b=>Value.bool b).toArray
theorem build213 (W:cA):(Instr.build 213 #[]).run dA W=.ok (bsV (uA 64 false)) W:=by kernel_rfl
theorem size213:(Tryz.prog.info? 213).map (·.size)=M 64:=by kernel_rfl
theorem under213:Tryz.prog.underlying 213=M (.array 64 4):=by kernel_rfl
theorem under4:Tryz.prog.underlying 4=M .bool:=by kernel_rfl
theorem sizeOf4 (w:cA):(sizeOf 4).run dA w=.ok 1 w:=by kernel_rfl
theorem store213 (w:cA) (g o:Nat) (bs:List Bool) (hl:bs.length=64) (h:w.there g o 64):(Instr.storeAt 213 (bA (M ⟨g,o,U⟩)) (bsV bs)).run dA w=.ok () (w.setCells g o (bs.map fun b=>Value.bool b)):=by
 have hs:(bs.map fun b=>Value.bool b).toArray.size=64:=by simp[hl]
 exact run_storeAt_mid (P:=dA) w g o 213 (bs.map fun b=>Value.bool b).toArray (by rw[hs];exact h) (by rw[hs];exact size213) (by simp[Value.oneCell'])
theorem all_range_bool:∀ (xs ys:List Bool),xs.length=ys.length->((List.range xs.length).all fun i=>xs.getD i false == ys.getD i false)=(xs == ys)
 | [],[],_=>rfl
 | x :: xs,y :: ys,h=>by
  have ih:=all_range_bool xs ys (by simpa using h)
  rw[List.length_cons,List.range_succ_eq_map,List.all_cons,List.all_map]
  simp only[List.getD_cons_zero,Function.comp_def,List.getD_cons_succ,ih]
  simp[List.cons_beq_cons]
 | [],_ :: _,h=>by simp at h
 | _ :: _,[],h=>by simp at h
theorem equal213 (w:cA) (d:Nat) (xs ys:List Bool) (hx:xs.length=64) (hy:ys.length=64):(Op.equalIn (d+2) 213 (bsV xs) (bsV ys)).run dA w=.ok (xs == ys) w:=by
 rw[<- all_range_bool xs ys (hx.trans hy.symm),hx,List.range_eq_range',bsV,bsV,Op.equalIn]
 simp only[Sem.run_bind,run_underlying under213,Result.andThen_ok,sizeOf4,Std.Legacy.Range.forIn_eq_forIn_range',Std.Legacy.Range.size,Nat.sub_zero,Nat.add_sub_cancel,Nat.div_one]
 have hl:∀ i∈List.range' 0 64 1,i < 64:=fun i hi=>by simpa using (List.mem_range'_1.1 hi).2
 generalize List.range' 0 64 1=l at hl ⊢
 induction l with
 | nil=>simp
 | cons i l ih =>
  have hi:i < 64:=hl i zB
  have px:(part 4 (xs.map fun b=>Value.bool b).toArray (i * 1)).run dA w=.ok (aA (xs.getD i false)) w:=by
   simp[part,isAgg,run_underlying under4,List.getD,dB (show i < xs.length by omega)]
  have py:(part 4 (ys.map fun b=>Value.bool b).toArray (i * 1)).run dA w=.ok (aA (ys.getD i false)) w:=by
   simp[part,isAgg,run_underlying under4,List.getD,dB (show i < ys.length by omega)]
  have pe:(Op.equalIn (d+1) 4 (aA (xs.getD i false)) (aA (ys.getD i false))).run dA w=.ok (xs.getD i false == ys.getD i false) w:=run_equalIn_bool w d 4 _ _ under4
  simp only[List.forIn_cons,Sem.run_bind,px,py,pe,Result.andThen_ok,List.all_cons]
  cases hb:(xs.getD i false == ys.getD i false)
  ·simp
  ·simp only[Bool.not_true,vA,if_false,Sem.run_pure,Result.andThen_ok,Bool.true_and]
   exact ih fun j hj=>hl j (by simp[hj])
theorem neq213 (w:cA) (xs ys:List Bool) (hx:xs.length=64) (hy:ys.length=64):(binOp .neq 213 (bsV xs) (bsV ys)).run dA w=.ok (aA (!(xs == ys))) w:=by
 unfold bsV
 rw[run_neq_struct]
 have:=equal213 w 9998 xs ys hx hy
 unfold bsV at this
 rw[this]
 rfl
def zK:List Bool:=uA 64 false
theorem zK_len:zK.length=64:=by simp[zK]
theorem build213z (W:cA):(Instr.build 213 #[]).run dA W=.ok (bsV zK) W:=build213 W
section
variable {ops:Array Oper} {rest:List Oper} {op:Oper} {a:Act} {w:cA} {Q:Exit->Act->cA->Prop}
theorem wpList_build213 (hgd:op.guard=U) (ho:op.op=.build 213 #[]) (h:wpList dA ops Q rest (a.put op.dst (bsV zK)) w):wpList dA ops Q (op :: rest) a w :=
 wpList_plain hgd fun _ hK=>by
  unfold Oper.wp execOp
  simp only[ho,Array.map_empty,Sem.run_bind,build213z,Result.andThen_ok]
  exact hK _ _ h
theorem wpList_store213 (bs:List Bool) (hl:bs.length=64) (hgd:op.guard=U) (x y:Operand) (ho:op.op=.store 213 x y) (g o:Nat) (hx:a.eval x=bA (M ⟨g,o,U⟩)) (hy:a.eval y=bsV bs) (ht:w.there g o 64) (h:wpList dA ops Q rest (a.put op.dst undef) (w.setCells g o (bs.map fun b=>Value.bool b))):wpList dA ops Q (op :: rest) a w :=
 wpList_plain hgd fun _ hK=>by
  unfold Oper.wp execOp
  simp only[ho,hx,hy,Sem.run_bind,store213 w g o bs hl ht,Result.andThen_ok]
  exact hK _ _ h
end
theorem arbDone_any {a:Arb} {b:Nat} {F:Set_} {w:cA} (hA:ArbX a b F w) (k s:Int):bB dA 126 #[bA (M ⟨b,0,U⟩),V I k,V I s] w (ArbP (aA (a.done k s).2) (a.done k s).1 b F w):=by
 have AB:=AS hA
 obtain⟨g,cap,rs,h⟩:=hA
 have hlen:=h.len
 have hdn:a.done k s=if k < 0∨k≥a.rows.length then (a,false) else if !(a.row k).on || (a.row k).active.seq != s then (a,false)
   else (a.setRow k { a.row k with on:=false,ending:=true,knows:=uA 64 false },true):=rfl
 rw[hdn]
 have c1:=cw h.1 1 (v:=J (M ⟨g,0,U⟩) rs.length cap)
 have hcap:cap≤9223372036854775807:=by obtain⟨A,c,e,-,-,hm,-⟩:=h.2.1.row;simp at e;omega
 by_cases q1:k < 0
 ·rw[if_pos (.inl q1)]
  clear h hdn
  go_enter Tryz.func126,Tryz.ntmps126
  go_wp2
  go_ret
  exact⟨rfl,AB.out.keep (qB (fun _=>False) _) (fun x _ h=>⟨.inl h,id⟩),qB _ _⟩
 ·by_cases q2:k≥(rs.length:Int)
  ·rw[if_pos (.inr (by rw[<- hlen];exact q2))]
   clear h hdn
   go_enter Tryz.func126,Tryz.ntmps126
   go_wp2
   go_ret
   exact⟨rfl,AB.out.keep (qB (fun _=>False) _) (fun x _ h=>⟨.inl h,id⟩),qB _ _⟩
  ·rw[if_neg (by rw[<- hlen];rintro(h | h);exact q1 h;exact q2 h)]
   obtain⟨i,rfl⟩:∃ i:Nat,k=i:=⟨k.toNat,vB⟩
   have hi:i < rs.length:=vB
   have hrow:=h.row hi
   have hmem:rs.getD i arowE.d∈rs:=by simp[List.getD,hi]
   have hqu:=h.2.2.2.2.2.2.2.2.2 _ hmem
   have HRW:=AS (show a.row i=(rs.getD i arowE.d).r by unfold Arb.row;rw[show(i:Int).toNat=i by omega,hrow])
   generalize hx:rs.getD i arowE.d=x at *
   have HX:=AS hx
   have OW:=AS (h.2.1.cell0 hi hx)
   have cs:=own_cells OW.out hi
   have HH:=AS h
   rw[HRW.out]
   obtain⟨⟨sq,⟨ab,an,aq⟩,on,en,kn,qu⟩,q,hh,hk⟩:=x
   have e3:w.cell? ⟨g,i * 71+3,U⟩=M (V I aq):=cs 3 yB
   have e4:w.cell? ⟨g,i * 71+4,U⟩=M (aA on):=cs 4 yB
   have e5:w.cell? ⟨g,i * 71+5,U⟩=M (aA en):=cs 5 yB
   have FZ:=fun j=>own_frz OW.out j
   have r0:(0:Int)≤(i:Int):=vB
   have r1:(i:Int) < (rs.length:Int):=vB
   have HQU:=AS hqu
   clear cs h hdn hlen hrow hmem hx hqu
   simp only
   cases on
   ·rw[if_pos zB]
    go_enter Tryz.func126,Tryz.ntmps126
    go_wp2
    go_ret
    exact⟨rfl,AB.out.keep (qB (fun _=>False) _) (fun x _ h=>⟨.inl h,id⟩),qB _ _⟩
   ·by_cases hs:aq=s
    ·rw[if_neg (by simp[hs])]
     have O1:=AS (OW.out.cell2 hi 4 yB ⟨⟨sq,⟨ab,an,aq⟩,false,en,kn,qu⟩,q,hh,hk⟩ (aA false) rfl)
     have O2:=AS (O1.out.cell2 hi 5 yB ⟨⟨sq,⟨ab,an,aq⟩,false,true,kn,qu⟩,q,hh,hk⟩ (aA true) rfl)
     have O3:=AS (O2.out.cells2 hi 6 (zK.map (fun b=>Value.bool b)) (by rw[List.length_map,zK_len];decide) ⟨⟨sq,⟨ab,an,aq⟩,false,true,zK,qu⟩,q,hh,zK_len⟩ (fun j hj=>set_k ⟨⟨sq,⟨ab,an,aq⟩,false,true,kn,qu⟩,q,hh,hk⟩ zK zK_len j hj))
     have TH:=AS (show((w.setCell ⟨g,i * 71+4,U⟩ (aA false)).setCell ⟨g,i * 71+5,U⟩ (aA true)).there g (i * 71+6) 64 from fun j hj=>by
      have hc:((w.setCell ⟨g,i * 71+4,U⟩ (aA false)).setCell ⟨g,i * 71+5,U⟩ (aA true)).cell? ⟨g,i * 71+(6+j),U⟩=(arowE.f ⟨⟨sq,⟨ab,an,aq⟩,false,true,kn,qu⟩,q,hh,hk⟩)[6+j]?:=own_cells O2.out hi (6+j) (by show _ < 71;omega)
      refine⟨?_,own_frz O2.out _⟩
      rw[show i * 71+6+j=i * 71+(6+j) by omega,hc]
      rw[dB (by rw[arowE.len];show _ < 71;omega)]
      rfl)
     subst hs
     have hsb:(aq != aq)=false:=by simp
     go_enter Tryz.func126,Tryz.ntmps126
     rw[show uA 64 false=zK from rfl]
     obtain⟨u6,e6⟩:∃ u,w.cell? ⟨g,i * 71+6,U⟩=M u:=⟨_,(own_cells OW.out hi 6 yB).trans (dB (by rw[arowE.len];decide))⟩
     go_wp2_with (first | (refine wpList_build213 rfl rfl ?_) | (refine wpList_store213 zK zK_len rfl _ _ rfl g (i * 71+6) rfl rfl TH.out ?_))
     go_ret
     have hk2:KS (fun x=>x=g) w ((w.setCell ⟨g,i * 71+4,U⟩ (aA false)).setCell ⟨g,i * 71+5,U⟩ (aA true)):=KS.set (F:=fun x=>x=g) (KS.set (F:=fun x=>x=g) (qB _ w) (.inl rfl) _ _) (.inl rfl) _ _
     have hk3:KS (fun x=>x=g) w (((w.setCell ⟨g,i * 71+4,U⟩ (aA false)).setCell ⟨g,i * 71+5,U⟩ (aA true)).setCells g (i * 71+6) (zK.map fun b=>Value.bool b)):=KS.setCells (F:=fun x=>x=g) (.inl rfl) _ _ _ hk2
     obtain⟨hX,hk⟩:=HH.out.setRow hi ⟨⟨sq,⟨ab,an,aq⟩,false,true,zK,qu⟩,q,hh,zK_len⟩ hk3 O3.out (HQU.out.keep hk3 (fun x hx hF=>⟨.inl hF,fun h1 h2=>h2⟩))
     have hcs:(a.setRow i ⟨sq,⟨ab,an,aq⟩,false,true,zK,qu⟩)={ a with rows:=a.rows.set i ⟨sq,⟨ab,an,aq⟩,false,true,zK,qu⟩}:=by unfold Arb.setRow;rw[show(i:Int).toNat=i by omega]
     rw[hcs]
     exact⟨rfl,hX,hk⟩
    ·rw[if_pos (by simp[hs])]
     have hsb:(aq != s)=true:=by simpa using hs
     go_enter Tryz.func126,Tryz.ntmps126
     go_wp2
     go_ret
     exact⟨rfl,AB.out.keep (qB (fun _=>False) _) (fun x _ h=>⟨.inl h,id⟩),qB _ _⟩
end Go.Proofs.YtiebppkhaiofeaaGreat.K
