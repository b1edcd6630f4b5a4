/- Part of the proof of TopStarver: what functions of the program do. -/
import Derived.Test.YtiebppkhaiofeaaGreatRows
import Derived.ProofKit
import Derived.ChangeOld
import Derived.SizedLaws
import Derived.Test.YtiebppkhaiofeaaGreatS51
set_option maxHeartbeats 4000000
set_option maxRecDepth 100000
set_option linter.unusedVariables false
set_option linter.unusedSimpArgs false
namespace Go.Proofs.YtiebppkhaiofeaaGreat.topStarver
open Go.ChangeShapes Go.WideShapes Go.ChangeAt Go.RowKit Go.Proofs.YtiebppkhaiofeaaGreat.Opens
theorem own:ownKnob Tryz.prog.godebug=none:=by kernel_rfl
theorem lifted (os:Os) (started:os.Started) (H:Type) (enc:TypeId×Value->H) :
  ReturnsInHanded {} Tryz.checked os 4 .any (Rows.topStarverSpec.pre6 enc Tryz.prog Tryz.f4 Rows.topStarverRow.domain false) (Rows.topStarverSpec.post enc Tryz.prog Tryz.f4 false true false false):=by
 refine returnsInHanded_of_change_sized (C:=Tryz.checked) own started (by kernel_rfl) Tryz.func4
  (ChangeSpec.witness6 (enc:=enc) (C:=Tryz.checked) false ⟨#[],#[.agg #[.int .i64 0,.int .i64 0,.int .i64 0,.int .i64 0,.int .i64 0,.int .i64 0,.int .i64 0,.int .i64 0,.int .i64 0],.slice none 0 0],[]⟩ 8 (by kernel_rfl) (by kernel_rfl) (by kernel_rfl) (by kernel_rfl)) ?_
 intro W base args ds gs before hval0 hW hcnd hsz0 _
 have hval:∀ (j:Nat) t v,Tryz.f4.params[j]?=some t->args[j]?=some v->Value.okWide Tryz.prog W .any base t v:=hval0
 have hW':=hW
 obtain⟨p,q,hA0,hV,rfl,hfz,hnd⟩:=hW
 have hA:DataW.TrodAll enc Tryz.prog W 0 (fun _=>true) true Tryz.f4.params.toList args.toList ds p:=hA0
 rw[Tryz.params4] at hA hval
 obtain⟨v0,vs0,d0,ds0,p0,q0,hargs,rfl,rfl,h0,r0⟩:=trodAll_cons hA
 obtain⟨v1,vs1,d1,ds1,p1,q1,rfl,rfl,rfl,h1,r1⟩:=trodAll_cons r0
 obtain⟨rfl,rfl,rfl⟩:=trodAll_nil r1
 obtain rfl:args=#[v0,v1]:=by cases args;simp_all
 obtain⟨rfl,rfl⟩:=trodVars_none hV
 obtain⟨a0_0,a0_1,a0_2,a0_3,a0_4,a0_5,a0_6,a0_7,a0_8,rfl,np0,w0_0,w0_1,w0_2,w0_3,w0_4,w0_5,w0_6,w0_7,w0_8⟩:=open_cfg (hval 0 23 v0 rfl rfl) h0
 obtain⟨b1,len1,c1,rfl⟩:=okWide_slice Tryz.underlying24 (hval 1 24 v1 rfl rfl)
 have k1:=h1
 have lt1:∀ x∈p1,x.block < W.heap.size:=by obtain⟨m,hm⟩:=k1;exact DataW.trod_lt m _ _ _ hm
 obtain⟨fuel1,hf1⟩:=h1
 obtain⟨a1,cap1,l1,hc1,hle1,hm1,hr1⟩:=open_rowE K.entE Tryz.underlying24 (by kernel_rfl) leaf33 (show DataW.trod _ _ _ _ _ _ fuel1 24 [.slice b1 len1 c1]=_ by simpa [Value.cells] using hf1)
 simp at hc1
 obtain⟨rfl,rfl,rfl⟩:=hc1
 clear hA0 hval0 hsz0
 refine(K.starver_any ⟨a0_0,a0_1,a0_2,a0_3,a0_4,a0_5,a0_6,a0_7,a0_8⟩ l1 hr1).mono fun e W' ⟨he,bel⟩=>?_
 subst he
 exact⟨_,rfl,_,_,_,[],_,[],hW',trodAll_mk1 (shut_bool Tryz.underlying4 _),(trodAll_cons_mk (kept (by kernel_rfl) (of_decide_eq_true (by kernel_rfl)) h0 bel np0) (trodAll_cons_mk (Below.trod laid (by kernel_rfl) (of_decide_eq_true (by kernel_rfl)) k1 bel lt1) trodAll_mk0)),rfl,bel.frame _,fun h=>by cases h⟩
theorem over:Rows.topStarverRow.holds Tryz.pinned (OpenSpec.ofChange Rows.topStarverSpec) :=
 OpenClaim.holds_of_wide 4 Tryz.f4 rfl rfl rfl rfl rfl rfl rfl ⟨rfl,rfl,rfl,rfl,rfl⟩ rfl rfl rfl rfl rfl (by kernel_rfl) Tryz.func4 (by kernel_rfl)
  (of_decide_eq_true (by kernel_rfl)) (by unfold Func.isWrapper;first | (rw[if_pos (by decide +kernel)];kernel_rfl) | (rw[if_neg (by decide +kernel)];exact⟨rfl,rfl⟩))
  (fun os started H enc _=>lifted os started H enc)
#print axioms over
end Go.Proofs.YtiebppkhaiofeaaGreat.topStarver
namespace Go.Proofs.YtiebppkhaiofeaaGreat
theorem topStarver_holds:Rows.TopStarverSaid:=topStarver.over
end Go.Proofs.YtiebppkhaiofeaaGreat
