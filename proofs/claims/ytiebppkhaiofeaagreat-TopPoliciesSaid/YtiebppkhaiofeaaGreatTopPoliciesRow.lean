/- Part of the proof of TopPolicies: what functions of the program do. -/
import Derived.Test.YtiebppkhaiofeaaGreatRows
import Derived.ProofKit
import Derived.ChangeOld
import Derived.SizedLaws
import Derived.Test.YtiebppkhaiofeaaGreatP30
import Derived.Test.YtiebppkhaiofeaaGreatP00
set_option maxHeartbeats 4000000
set_option maxRecDepth 100000
set_option linter.unusedVariables false
set_option linter.unusedSimpArgs false
open Go.IntKind renaming i64→I
open Go.Value renaming slice→J, int→V
open Option renaming some→M, none→U
open Go renaming World→cA
open Go.Proofs.Tryz renaming prog→dA
namespace Go.Proofs.YtiebppkhaiofeaaGreat.topPolicies
open Go.ChangeShapes Go.WideShapes Go.ChangeAt Go.RowKit Go.Proofs.YtiebppkhaiofeaaGreat.Opens
section
variable {H:Type} {enc:TypeId×Value->H} {w:cA} {base:Nat} {spare:Nat->Bool} {held:Bool}
theorem trod_three {fuel:Nat} {c0 c1 c2:Value} {x:DataW H×List MemPlace} (h:DataW.trod enc dA w base spare held fuel 62 [c0,c1,c2]=M x):∃ x0 x1 x2:Int,c0=V I x0/\c1=V I x1/\c2=V I x2/\x.2=[]:=by
 have hs:Tryz.prog.underlying 62=M (.array 3 3):=by kernel_rfl
 have hc3:Tryz.prog.cellsOf 3=1:=by kernel_rfl
 obtain⟨xs,m,_,hx,_,hlen,hg⟩:=DataW.trod_array hs h
 match xs,hlen with
 | [y0,y1,y2],_ =>
  have h0:DataW.trod enc dA w base spare held m 3 [c0]=M y0:=by simpa [hc3] using hg 0 vB
  have h1:DataW.trod enc dA w base spare held m 3 [c1]=M y1:=by simpa [hc3] using hg 1 vB
  have h2:DataW.trod enc dA w base spare held m 3 [c2]=M y2:=by simpa [hc3] using hg 2 vB
  obtain⟨x0,e0,rfl,w0⟩:=DataW.trod_int (k:=.i64) xB h0
  obtain⟨x1,e1,rfl,w1⟩:=DataW.trod_int (k:=.i64) xB h1
  obtain⟨x2,e2,rfl,w2⟩:=DataW.trod_int (k:=.i64) xB h2
  simp only[List.cons.injEq,and_true] at e0 e1 e2
  exact⟨x0,x1,x2,e0,e1,e2,by rw[hx];rfl⟩
theorem open_six {r:Reach} {b0:Nat} {v:Value} {d:DataW H} {p:List MemPlace} (hv:Value.okWide dA w r b0 63 v) (h:DataW.Trod enc dA w base spare held 63 v d p) :
  ∃ x0 x1 x2 x3 x4 x5:Int,v=.agg #[V I x0,V I x1,V I x2,V I x3,V I x4,V I x5]/\p=[]:=by
 have hs:Tryz.prog.underlying 63=M (.array 2 62):=by kernel_rfl
 have hc62:Tryz.prog.cellsOf 62=3:=by kernel_rfl
 have hC:Tryz.prog.cellsOf 63=6:=by kernel_rfl
 have hcs:∃ cs,v=.agg cs/\cs.size=Tryz.prog.cellsOf 63:=by
  simp only[Value.okWide,hs] at hv
  obtain⟨cs,h1,h2,_⟩:=hv
  exact⟨cs,h1,h2⟩
 obtain⟨cs,rfl,hsz⟩:=hcs
 obtain⟨l⟩:=cs
 match l,hsz.trans hC with
 | [c0,c1,c2,c3,c4,c5],_ =>
  obtain⟨fuel,hf⟩:=h
  obtain⟨xs,m,_,hx,_,hlen,hg⟩:=DataW.trod_array hs hf
  match xs,hlen with
  | [y0,y1],_ =>
   simp only[Prod.mk.injEq] at hx
   have h0:DataW.trod enc dA w base spare held m 62 [c0,c1,c2]=M y0:=by simpa [Value.cells,hc62] using hg 0 vB
   have h1:DataW.trod enc dA w base spare held m 62 [c3,c4,c5]=M y1:=by simpa [Value.cells,hc62] using hg 1 vB
   obtain⟨x0,x1,x2,rfl,rfl,rfl,p0⟩:=trod_three h0
   obtain⟨x3,x4,x5,rfl,rfl,rfl,p1⟩:=trod_three h1
   refine⟨x0,x1,x2,x3,x4,x5,rfl,?_⟩
   rw[hx.2];simp[p0,p1]
end
theorem own:ownKnob Tryz.prog.godebug=U:=by kernel_rfl
theorem lifted (os:Os) (started:os.Started) (H:Type) (enc:TypeId×Value->H) :
  ReturnsInHanded {} Tryz.checked os 5 .any (Rows.topPoliciesSpec.pre6 enc dA Tryz.f5 Rows.topPoliciesRow.domain false) (Rows.topPoliciesSpec.post enc dA Tryz.f5 false true false false):=by
 refine returnsInHanded_of_change_sized (C:=Tryz.checked) own started xB Tryz.func5
  (ChangeSpec.witness6 (enc:=enc) (C:=Tryz.checked) false ⟨#[],#[.agg #[V I 0,V I 0,V I 0,V I 0,V I 0,V I 0,V I 0,V I 0,V I 0],J U 0 0,.agg #[V I 0,V I 0,V I 0,V I 0,V I 0,V I 0]],[]⟩ 8 xB xB xB xB) ?_
 intro W base args ds gs before hval0 hW hcnd hsz0 _
 have hval:∀ (j:Nat) t v,Tryz.f5.params[j]?=M t->args[j]?=M v->Value.okWide dA W .any base t v:=hval0
 have hW':=hW
 obtain⟨p,q,hA0,hV,rfl,hfz,hnd⟩:=hW
 have hA:DataW.TrodAll enc dA W 0 (fun _=>true) true Tryz.f5.params.toList args.toList ds p:=hA0
 rw[Tryz.params5] at hA hval
 obtain⟨v0,vs0,d0,ds0,p0,q0,hargs,rfl,rfl,h0,r0⟩:=trodAll_cons hA
 obtain⟨v1,vs1,d1,ds1,p1,q1,rfl,rfl,rfl,h1,r1⟩:=trodAll_cons r0
 obtain⟨v2,vs2,d2,ds2,p2,q2,rfl,rfl,rfl,h2,r2⟩:=trodAll_cons r1
 obtain⟨rfl,rfl,rfl⟩:=trodAll_nil r2
 obtain rfl:args=#[v0,v1,v2]:=by cases args;simp_all
 obtain⟨rfl,rfl⟩:=trodVars_none hV
 obtain⟨a0_0,a0_1,a0_2,a0_3,a0_4,a0_5,a0_6,a0_7,a0_8,rfl,np0,w0_0,w0_1,w0_2,w0_3,w0_4,w0_5,w0_6,w0_7,w0_8⟩:=open_cfg (hval 0 23 v0 rfl rfl) h0
 obtain⟨z0,z1,z2,z3,z4,z5,rfl,np2⟩:=open_six (hval 2 63 v2 rfl rfl) h2
 obtain⟨b1,len1,c1,rfl⟩:=okWide_slice Tryz.underlying24 (hval 1 24 v1 rfl rfl)
 have k1:=h1
 have lt1:∀ x∈p1,x.block < W.heap.size:=by obtain⟨m,hm⟩:=k1;exact DataW.trod_lt m _ _ _ hm
 obtain⟨fuel1,hf1⟩:=h1
 obtain⟨a1,cap1,l1,hc1,hle1,hm1,hr1⟩:=open_rowE K.entE Tryz.underlying24 xB leaf33 (show DataW.trod _ _ _ _ _ _ fuel1 24 [J b1 len1 c1]=_ by simpa [Value.cells] using hf1)
 simp at hc1
 obtain⟨rfl,rfl,rfl⟩:=hc1
 clear hA0 hval0 hsz0
 refine(K.policies_any ⟨a0_0,a0_1,a0_2,a0_3,a0_4,a0_5,a0_6,a0_7,a0_8⟩ l1 z0 z1 z2 z3 z4 z5 hr1).mono fun e W' ⟨he,bel⟩=>?_
 subst he
 exact⟨_,rfl,_,_,_,[],_,[],hW',trodAll_mk1 (shut_bool Tryz.underlying4 _),(trodAll_cons_mk (kept xB (of_decide_eq_true xB) h0 bel np0) (trodAll_cons_mk (Below.trod laid xB (of_decide_eq_true xB) k1 bel lt1) (trodAll_cons_mk (kept xB (of_decide_eq_true xB) h2 bel np2) trodAll_mk0))),rfl,bel.frame _,fun h=>by cases h⟩
theorem over:Rows.topPoliciesRow.holds Tryz.pinned (OpenSpec.ofChange Rows.topPoliciesSpec) :=
 OpenClaim.holds_of_wide 5 Tryz.f5 rfl rfl rfl rfl rfl rfl rfl ⟨rfl,rfl,rfl,rfl,rfl⟩ rfl rfl rfl rfl rfl xB Tryz.func5 xB
  (of_decide_eq_true xB) (by unfold Func.isWrapper;first | (rw[if_pos (by decide +kernel)];kernel_rfl) | (rw[if_neg (by decide +kernel)];exact⟨rfl,rfl⟩))
  (fun os started H enc _=>lifted os started H enc)
#print axioms over
end Go.Proofs.YtiebppkhaiofeaaGreat.topPolicies
namespace Go.Proofs.YtiebppkhaiofeaaGreat
theorem topPolicies_holds:Rows.TopPoliciesSaid:=topPolicies.over
end Go.Proofs.YtiebppkhaiofeaaGreat
