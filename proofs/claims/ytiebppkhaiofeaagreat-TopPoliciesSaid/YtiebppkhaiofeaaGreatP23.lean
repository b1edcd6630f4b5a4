/- Part of the proof of TopPolicies: what functions of the program do. -/
import Derived.Test.YtiebppkhaiofeaaGreatP22
import Derived.Test.YtiebppkhaiofeaaGreatP00
set_option maxHeartbeats 4000000
set_option maxRecDepth 100000
set_option linter.unusedVariables false
set_option linter.unusedSimpArgs false
open Go.IntKind renaming i64→I
open Go.Value renaming slice→J, int→V, bool→aA, pointer→bA
open Option renaming some→M, none→U
open Go.Obj renaming cells→O
open Go.ChangeMaps renaming setBlock→aB
open Go renaming Calls→bB, World→cA
open List renaming getD_eq_getElem?_getD→cB, getElem?_eq_getElem→dB, length_append→xA
open Go.Proofs.Tryz renaming prog→dA
open Go.Proofs.YtiebppkhaiofeaaGreatW.PrintWords renaming below_alloc→eA, blk_lt→eB, blk_drew→fB, blk_frozen→jA, blk_below→kA, blk_alloc→lA, blk_set→mA, blk_new→nA
open Go.RowKit.Below renaming refl→fA, drew→iA
open Go.Proofs.YtiebppkhaiofeaaGreat.K renaming rec_old→jB
open Nat renaming le_refl→pA
open Go.Proofs.YtiebppkhaiofeaaGreat.K.KS renaming below→pB, refl→qB, drew→sB, set1→tB
open And renaming intro→qA
open Go.World renaming size_alloc→rA
open Bool renaming false_eq_true→vA
namespace Go.Proofs.YtiebppkhaiofeaaGreat.K
open Go.RowKit Go.Proofs.YtiebppkhaiofeaaGreatW.PrintWords Go.Proofs.YtiebppkhaiofeaaGreat.S
attribute [local go_sem] World.cell?_alloc_some
open Go.ChangeMaps Go.MapKept
theorem WldAt.keep {c:Cfg} {s:S.World} {b:Nat} {F F' G:Set_} {w w':cA} (h:WldAt c s b F w) (hk:KS G w w') (hs:∀ x,x < w.heap.size->F x->F' x/\¬ G x):WldAt c s b F' w':=by
 obtain⟨p,K,hK,hF⟩:=h
 have hsz:=hk.size
 refine⟨p,rec_ K w 200,hK.keep hk (fun x hx h=>⟨jB hx,(hs x hx (hF x hx h)).2⟩),fun x hx h=>?_⟩
 by_cases hl:x < w.heap.size
 ·rw[jB hl] at h;exact(hs x hl (hF x hl h)).1
 ·rw[rec_new vB] at h;omega
def StepP (c:Cfg) (s:S.World) (e:Ent) (b:Nat) (F:Set_) (w:cA) (en:Ending) (w':cA):Prop :=
 ∃ A n cp,en=.returned (.tuple #[V I (s.step c e).2.1,J A n cp])/\WldAt c (s.step c e).1 b (gr F w) w'/\OwnE doneE (J A n cp) (s.step c e).2.2 w'/\KS F w w'
theorem WldAt.col {c:Cfg} {s:S.World} {b:Nat} {F:Set_} {w:cA} (h:WldAt c s b F w):∃ p K,WldK c s b p K w/\(∀ x,x < w.heap.size->K x≤101->F x)/\∀ x,K x < 100∨K x=200:=by
 obtain⟨p,K,hK,hF⟩:=h
 refine⟨p,fun x=>if K x < 100 then K x else 200,hK.keep (qB (fun _=>False) w) (fun x _ h=>⟨if_pos h,id⟩),fun x hx h=>?_,fun x=>?_⟩
 ·by_cases q:K x < 100
  ·exact hF x hx q
  ·simp only[if_neg q] at h;omega
 ·by_cases q:K x < 100
  ·simp only[if_pos q];exact .inl q
  ·simp only[if_neg q];exact .inr trivial
theorem under104:Tryz.prog.underlying 104=M (.map 3 25):=by kernel_rfl
theorem zero25 (w:cA):(zeroValue 25).run dA w=.ok .nilFunc w:=by kernel_rfl
def stp (st:Int) (ds:List S.Done) (i:Nat):List S.Done:=(ds.take i).map (fun d=>{ d with step:=st }) ++ ds.drop i
section
variable {st:Int} {ds:List S.Done} {i:Nat} (x:S.Done)
theorem dgetD_at (h:i < ds.length):ds.getD i x=ds[i]:=by rw[cB,dB h];rfl
theorem dtake_one (h:i < ds.length):ds.take (i+1)=ds.take i ++ [ds.getD i x]:=by rw[List.take_add_one,dB h,dgetD_at x h];rfl
theorem stp_pre (h:i≤ds.length):((ds.take i).map (fun d:S.Done=>{ d with step:=st })).length=i:=by rw[List.length_map,List.length_take];omega
theorem stp_len (h:i≤ds.length):(stp st ds i).length=ds.length:=by unfold stp;rw[xA,stp_pre h,List.length_drop];omega
theorem stp_get (h:i < ds.length):(stp st ds i).getD i x=ds.getD i x:=by
 unfold stp
 rw[cB,List.getElem?_append_right (by rw[stp_pre (Nat.le_of_lt h)];exact pA _),stp_pre (Nat.le_of_lt h),Nat.sub_self,List.getElem?_drop,cB]
 rfl
theorem stp_set (h:i < ds.length):(stp st ds i).set i { ds.getD i x with step:=st }=stp st ds (i+1):=by
 unfold stp
 rw[List.set_append_right _ _ (by rw[stp_pre (Nat.le_of_lt h)];exact pA _),stp_pre (Nat.le_of_lt h),Nat.sub_self,List.drop_eq_getElem_cons h,List.set_cons_zero,dtake_one x h,List.map_append,List.append_assoc,List.map_cons,List.map_nil]
 rfl
theorem stp_end:stp st ds ds.length=ds.map fun d=>{ d with step:=st }:=by unfold stp;rw[List.take_length,List.drop_length,List.append_nil]
end
theorem acts_steps (c:Cfg) (s:S.World) (e:Ent):(s.acts c e).2.1.steps=s.steps:=by
 unfold S.World.acts
 split
 ·rfl
 ·split
  ·split
   ·simp only;split <;> rfl
   ·rfl
  ·split
   ·split <;> rfl
   ·rfl
theorem WldK.moved {c:Cfg} {s:S.World} {b b2:Nat} {p:WPt} {K:Nat->Nat} {w w':cA} (h:WldK c s b2 p K w) (hB:w'.heap[b]?=M (O (wldC c s p) 91 (0,0))) (hk:KS (fun x=>x=b) w w') (hKb:100≤K b):WldK c s b p (fun x=>if x=b then 0 else if x=b2 then 200 else K x) w':=by
 obtain⟨h1,h2,h3,h4,h5,h6,h7,h8,h9⟩:=h
 have g:∀ {x k:Nat},K x=k->1≤k->k < 100->((fun x=>if x=b then 0 else if x=b2 then 200 else K x) x=k)/\¬ x=b:=fun {x k} e h1 h2'=>by
  have n1:x≠b:=fun q=>by rw[q] at e;omega
  have n2:x≠b2:=fun q=>by rw[q,h2] at e;omega
  exact⟨by simp only[if_neg n1,if_neg n2];exact e,n1⟩
 exact⟨hB,if_pos rfl,h3.ks hk (fun x hx=>(g (h4 x hx) vB vB).2),fun x hx=>(g (h4 x hx) vB vB).1,h5.keep hk (fun x _ e=>g e vB vB),h6.keep hk (fun x _ e=>g e vB vB),h7,h8,fun i hi=>(h9 i hi).keep hk (fun x _ e=>g e vB vB)⟩
theorem worldStep_any {c:Cfg} {s:S.World} {b:Nat} {F:Set_} {w:cA} (hW:WldAt c s b F w) (hs:WB c s) (e:Ent):bB dA 9 #[bA (M ⟨b,0,U⟩),entV e] w (StepP c s e b F w):=by
 obtain⟨p,K,hK,hF,hcol⟩:=hW.col
 obtain⟨k_,a_,b_,c_,d_⟩:=e
 have hs1:WB c (⟨wrap64 (s.steps+1),s.ticks,s.nodes,s.home,s.way⟩:S.World):=⟨hs.chk,hs.len,hs.node,hs.arb,hs.qn,hs.rl,hs.dst⟩
 have HS:=AS hs1
 have hbl:=eB hK.1
 have HW:=AS hK
 have HF:=AS hF
 have HCL:=AS hcol
 have HST:=AS (show s.step c (⟨k_,a_,b_,c_,d_⟩:Ent)=(if !Ent.legal c (⟨k_,a_,b_,c_,d_⟩:Ent) then ((⟨wrap64 (s.steps+1),s.ticks,s.nodes,s.home,s.way⟩:S.World),0,[]) else if !(((⟨wrap64 (s.steps+1),s.ticks,s.nodes,s.home,s.way⟩:S.World)).acts c (⟨k_,a_,b_,c_,d_⟩:Ent)).1 then ((((⟨wrap64 (s.steps+1),s.ticks,s.nodes,s.home,s.way⟩:S.World)).acts c (⟨k_,a_,b_,c_,d_⟩:Ent)).2.1,0,[]) else if (((((⟨wrap64 (s.steps+1),s.ticks,s.nodes,s.home,s.way⟩:S.World)).acts c (⟨k_,a_,b_,c_,d_⟩:Ent)).2.2.1.length:Int) > c.cap - (((⟨wrap64 (s.steps+1),s.ticks,s.nodes,s.home,s.way⟩:S.World)).acts c (⟨k_,a_,b_,c_,d_⟩:Ent)).2.1.way.length) then ((⟨wrap64 (s.steps+1),s.ticks,s.nodes,s.home,s.way⟩:S.World),2,[]) else ({ (((⟨wrap64 (s.steps+1),s.ticks,s.nodes,s.home,s.way⟩:S.World)).acts c (⟨k_,a_,b_,c_,d_⟩:Ent)).2.1 with way:=(((⟨wrap64 (s.steps+1),s.ticks,s.nodes,s.home,s.way⟩:S.World)).acts c (⟨k_,a_,b_,c_,d_⟩:Ent)).2.1.way ++ (((⟨wrap64 (s.steps+1),s.ticks,s.nodes,s.home,s.way⟩:S.World)).acts c (⟨k_,a_,b_,c_,d_⟩:Ent)).2.2.1 },1,(((⟨wrap64 (s.steps+1),s.ticks,s.nodes,s.home,s.way⟩:S.World)).acts c (⟨k_,a_,b_,c_,d_⟩:Ent)).2.2.2.map fun d=>{ d with step:=wrap64 (s.steps+1)})) from rfl)
 have LG:=AS (fun X=>legal_any c (⟨k_,a_,b_,c_,d_⟩:Ent) X)
 unfold StepP
 have e9:=cw hK.1 9 (v:=V I s.steps)
 have z9:=jA hK.1 9
 generalize hST:s.step c (⟨k_,a_,b_,c_,d_⟩:Ent)=ST at *
 clear hST hs hs1 hK hF hcol hW
 have SS:=AS (show(w.setCell ⟨b,9,U⟩ (V I (wrap64 (s.steps+1)))).heap.size=w.heap.size from by simp only[World.size_setCell])
 have BW:=AS (show Below (w.setCell ⟨b,9,U⟩ (V I (wrap64 (s.steps+1)))).heap.size (w.setCell ⟨b,9,U⟩ (V I (wrap64 (s.steps+1)))) (((w.setCell ⟨b,9,U⟩ (V I (wrap64 (s.steps+1)))).alloc (O #[bA (M ⟨b,0,U⟩)] 27)).alloc (O #[V I k_,V I a_,V I b_,V I c_,V I d_] 33)) from eA (eA (fA _ _) _) _)
 have HA1:=AS ((HW.out.num 9 (V I (wrap64 (s.steps+1))) (wrap64 (s.steps+1)) s.ticks (by simp[wldC])).keep (K':=rec_ K w 200) (pB (fun _=>False) BW.out) (fun x hx _=>⟨jB (by rw[SS.out] at hx;exact hx),id⟩))
 have HG:=AS (show(((w.setCell ⟨b,9,U⟩ (V I (wrap64 (s.steps+1)))).alloc (O #[bA (M ⟨b,0,U⟩)] 27)).alloc (O #[V I k_,V I a_,V I b_,V I c_,V I d_] 33)).heap[w.heap.size]?=M (O #[bA (M ⟨b,0,U⟩)] 27 (0,0)) from lA (blk_newE _ _ SS.out.symm) _)
 have HE:=AS (show(((w.setCell ⟨b,9,U⟩ (V I (wrap64 (s.steps+1)))).alloc (O #[bA (M ⟨b,0,U⟩)] 27)).alloc (O #[V I k_,V I a_,V I b_,V I c_,V I d_] 33)).heap[w.heap.size+1]?=M (O #[V I k_,V I a_,V I b_,V I c_,V I d_] 33 (0,0)) from blk_newE _ _ (by rw[rA,SS.out]))
 have HKS:=AS (show KS (fun x=>K x≤101) w (((w.setCell ⟨b,9,U⟩ (V I (wrap64 (s.steps+1)))).alloc (O #[bA (M ⟨b,0,U⟩)] 27)).alloc (O #[V I k_,V I a_,V I b_,V I c_,V I d_] 33)) from(KS.set (F:=fun x=>K x≤101) (qB _ w) (g:=b) (.inl (by have:=HW.out.2.1;show K b≤101;omega)) 9 _).andBelow BW.out)
 have HSZ:=AS (show(((w.setCell ⟨b,9,U⟩ (V I (wrap64 (s.steps+1)))).alloc (O #[bA (M ⟨b,0,U⟩)] 27)).alloc (O #[V I k_,V I a_,V I b_,V I c_,V I d_] 33)).heap.size=w.heap.size+2 from by rw[rA,rA,SS.out])
 have BW:=AS SS.out
 simp only[entV]
 go_enter Tryz.func9,Tryz.ntmps9
 go_upto_region 2 with fail
 generalize (((w.setCell ⟨b,9,U⟩ (V I (wrap64 (s.steps+1)))).alloc (O #[bA (M ⟨b,0,U⟩)] 27)).alloc (O #[V I k_,V I a_,V I b_,V I c_,V I d_] 33))=W at HA1 HG HE HKS HSZ ⊢
 clear e9 z9 SS BW
 have KEEP:=AS (show ∀ x,Below W.heap.size W x->(x.cell? ⟨b,0,U⟩=M (V I c.nodes)/\x.cell? ⟨b,1,U⟩=M (V I c.blocks)/\x.cell? ⟨b,2,U⟩=M (V I c.tokens)/\x.cell? ⟨b,3,U⟩=M (V I c.sets)/\x.cell? ⟨b,4,U⟩=M (V I c.ways)/\x.cell? ⟨b,5,U⟩=M (V I c.cap)/\x.cell? ⟨b,6,U⟩=M (V I c.wait)/\x.cell? ⟨b,7,U⟩=M (V I c.tries)/\x.cell? ⟨b,8,U⟩=M (V I c.policy)/\x.cell? ⟨w.heap.size,0,U⟩=M (bA (M ⟨b,0,U⟩))/\x.cell? ⟨w.heap.size+1,0,U⟩=M (V I k_)/\x.cell? ⟨w.heap.size+1,1,U⟩=M (V I a_)/\x.cell? ⟨w.heap.size+1,2,U⟩=M (V I b_)/\x.cell? ⟨w.heap.size+1,3,U⟩=M (V I c_)/\x.cell? ⟨w.heap.size+1,4,U⟩=M (V I d_)) from fun x hx=>by
  have hb1:=kA HA1.out.1 hx
  have hb2:=kA HG.out hx
  have hb3:=kA HE.out hx
  exact⟨cw hb1 0,cw hb1 1,cw hb1 2,cw hb1 3,cw hb1 4,cw hb1 5,cw hb1 6,cw hb1 7,cw hb1 8,cw hb2 0,cw hb3 0,cw hb3 1,cw hb3 2,cw hb3 3,cw hb3 4⟩)
 obtain⟨e0_,e1_,e2_,e3_,e4_,e5_,e6_,e7_,e8_,e9_,e10_,e11_,e12_,e13_,e14_⟩:=KEEP.out W (fA _ _)
 simp only[cfgV,entV] at LG
 generalize hlg:Ent.legal c (⟨k_,a_,b_,c_,d_⟩:Ent)=lg at *
 go_cut [23] (fun v23 wx=>v23=aA (!lg)/\Below W.heap.size W wx)
 case first =>
  go_region_held3 (fun x=>x.cell? ⟨b,0,U⟩=M (V I c.nodes)/\x.cell? ⟨b,1,U⟩=M (V I c.blocks)/\x.cell? ⟨b,2,U⟩=M (V I c.tokens)/\x.cell? ⟨b,3,U⟩=M (V I c.sets)/\x.cell? ⟨b,4,U⟩=M (V I c.ways)/\x.cell? ⟨b,5,U⟩=M (V I c.cap)/\x.cell? ⟨b,6,U⟩=M (V I c.wait)/\x.cell? ⟨b,7,U⟩=M (V I c.tries)/\x.cell? ⟨b,8,U⟩=M (V I c.policy)/\x.cell? ⟨w.heap.size,0,U⟩=M (bA (M ⟨b,0,U⟩))/\x.cell? ⟨w.heap.size+1,0,U⟩=M (V I k_)/\x.cell? ⟨w.heap.size+1,1,U⟩=M (V I a_)/\x.cell? ⟨w.heap.size+1,2,U⟩=M (V I b_)/\x.cell? ⟨w.heap.size+1,3,U⟩=M (V I c_)/\x.cell? ⟨w.heap.size+1,4,U⟩=M (V I d_)) ((refine KEEP.out _ ?_;(repeat (with_reducible first | exact H1.out | apply iA | exact fA _ _)))) ((first | (go_at_call 25;refine(LG.out _).mono ?_;rintro e w1 ⟨rfl,hb⟩;have H1:=AS (show Below W.heap.size W w1 from(iA (fA _ _)).trans hb);clear hb) | fail))
  all_goals
   go_wp2_with fail
   go_meet
   exact⟨rfl,H1.out⟩
 case rest =>
  obtain⟨rfl,hbe⟩:=hcut
  have BE:=AS hbe
  clear hbe e0_ e1_ e2_ e3_ e4_ e5_ e6_ e7_ e8_ e9_ e10_ e11_ e12_ e13_ e14_
  have hsz:=BE.out.size
  have hSZ:=HSZ.out
  have WX:=AS (HA1.out.keep (K':=rec_ (rec_ K w 200) W 200) (w':=wc) (pB (fun _=>False) BE.out) (fun x hx _=>⟨jB hx,id⟩))
  have KK:=AS (show(∀ x,rec_ (rec_ K w 200) W 200 x < 100∨rec_ (rec_ K w 200) W 200 x=200)/\(∀ x,x < w.heap.size->rec_ (rec_ K w 200) W 200 x=K x)/\rec_ (rec_ K w 200) W 200 w.heap.size=200/\rec_ (rec_ K w 200) W 200 (w.heap.size+1)=200 from by
   refine⟨fun x=>?_,fun x hx=>(jB vB).trans (jB hx),(jB vB).trans (rec_new vB),(jB vB).trans (rec_new vB)⟩
   by_cases h:x < W.heap.size
   ·rw[jB h]
    by_cases h2:x < w.heap.size
    ·rw[jB h2];exact HCL.out x
    ·rw[rec_new vB];exact .inr rfl
   ·rw[rec_new vB];exact .inr rfl)
  have HKX:=AS (HKS.out.andBelow BE.out)
  have GX:=AS (kA HG.out BE.out)
  have EX:=AS (kA HE.out BE.out)
  generalize rec_ (rec_ K w 200) W 200=K1 at WX KK
  clear HA1 HKS HG HE KEEP BE HSZ hsz hSZ
  cases lg with
  | false =>
   have hr:=HST.out
   simp only[Bool.not_false,if_true] at hr
   have HR:=AS hr
   clear hr HST
   go_wp2
   go_ret2
   rw[HR.out]
   refine⟨U,0,0,rfl,⟨p,K1,WX.out,fun x hx h100=>?_⟩,OwnE.nil _,HKX.out.mono (fun x hx h=>HF.out x hx h)⟩
   by_cases hl:x < w.heap.size
   ·exact .inl (HF.out x hl (by rw[KK.out.2.1 x hl] at h100;omega))
   ·exact .inr vB
  | true =>
   have hr0:=HST.out
   simp only[Bool.not_true,vA,if_false] at hr0
   have HR:=AS hr0
   clear hr0 HST
   have CP:=AS (worldCopy_any (F:=fun _=>True) ⟨p,K1,WX.out,fun _ _ _=>trivial⟩ HS.out.rows HS.out.queue)
   have g0:=cw GX.out 0 (v:=bA (M ⟨b,0,U⟩))
   have hmf:∀ (fn:Fn) (first cap:Array Value) (w:cA),(Instr.makeFunc fn first cap).run dA w=.ok (.func fn first cap) w:=fun _ _ _ _=>rfl
   go_wp2_with fail
   refine CP.out.mono ?_
   rintro e w4 ⟨b2,rfl,hC,hb4⟩
   have HC4:=AS hC
   have HB4:=AS hb4
   clear g0 CP hC hb4
   have m1:=fun w:cA=>run_makeMap (P:=dA) 104 w
   have hb0:=(heap_alloc (w4.alloc (O #[J U 0 0,J U 0 0] 100)) (.map #[] 0)).1
   simp only[rA] at hb0
   obtain⟨s1,k1,hr1,hi1⟩:=IM.empty.put hb0 under104 under3 1 (.func (.func 27) #[] #[bA (M ⟨w.heap.size,0,U⟩),bA (M ⟨w.heap.size+1,0,U⟩),bA (M ⟨w4.heap.size,0,U⟩)])
   have hb1:=set_at hb0 (.map s1 k1)
   obtain⟨s2,k2,hr2,hi2⟩:=hi1.put hb1 under104 under3 2 (.func (.func 29) #[] #[bA (M ⟨w.heap.size,0,U⟩),bA (M ⟨w.heap.size+1,0,U⟩),bA (M ⟨w4.heap.size,0,U⟩)])
   have hb2:=set_at hb1 (.map s2 k2)
   obtain⟨s3,k3,hr3,hi3⟩:=hi2.put hb2 under104 under3 3 (.func (.func 31) #[] #[bA (M ⟨w.heap.size,0,U⟩),bA (M ⟨w.heap.size+1,0,U⟩)])
   have hb3:=set_at hb2 (.map s3 k3)
   obtain⟨s4,k4,hr4,hi4⟩:=hi3.put hb3 under104 under3 4 (.func (.func 33) #[] #[bA (M ⟨w.heap.size,0,U⟩),bA (M ⟨w.heap.size+1,0,U⟩),bA (M ⟨w4.heap.size,0,U⟩)])
   have hb4:=set_at hb3 (.map s4 k4)
   have LK:=AS (show ∀ W':cA,W'.heap[w4.heap.size+1]?=M (.map s4 k4)->_ from fun W' h=>hi4.look h under104 under3 (zero25 W') k_)
   have W4E:=AS (show Below w4.heap.size w4 (aB (aB (aB (aB ((w4.alloc (O #[J U 0 0,J U 0 0] 100)).alloc (.map #[] 0)) (w4.heap.size+1) (.map s1 k1)) (w4.heap.size+1) (.map s2 k2)) (w4.heap.size+1) (.map s3 k3)) (w4.heap.size+1) (.map s4 k4)) from below_block (below_block (below_block (below_block (eA (eA (fA w4.heap.size w4) _) _) vB _) vB _) vB _) vB _)
   have QN:=AS (show(aB (aB (aB (aB ((w4.alloc (O #[J U 0 0,J U 0 0] 100)).alloc (.map #[] 0)) (w4.heap.size+1) (.map s1 k1)) (w4.heap.size+1) (.map s2 k2)) (w4.heap.size+1) (.map s3 k3)) (w4.heap.size+1) (.map s4 k4)).heap[w4.heap.size]?=M (O #[J U 0 0,J U 0 0] 100 (0,0)) from((set_far hb3 _ vB).trans ((set_far hb2 _ vB).trans ((set_far hb1 _ vB).trans ((set_far hb0 _ vB).trans (lA (nA w4 _) _))))))
   have HB:=AS hb4
   have MS:=AS (show(aB (aB (aB (aB ((w4.alloc (O #[J U 0 0,J U 0 0] 100)).alloc (.map #[] 0)) (w4.heap.size+1) (.map s1 k1)) (w4.heap.size+1) (.map s2 k2)) (w4.heap.size+1) (.map s3 k3)) (w4.heap.size+1) (.map s4 k4)).heap.size=w4.heap.size+2 from by simp[aB])
   clear hb0 hb1 hb2 hb3 hb4 hi1 hi2 hi3 hi4
   go_upto_region 7 with fail
   clear hr1 hr2 hr3 hr4 m1
   generalize (aB (aB (aB (aB ((w4.alloc (O #[J U 0 0,J U 0 0] 100)).alloc (.map #[] 0)) (w4.heap.size+1) (.map s1 k1)) (w4.heap.size+1) (.map s2 k2)) (w4.heap.size+1) (.map s3 k3)) (w4.heap.size+1) (.map s4 k4))=W4 at W4E QN HB MS ⊢
   have lk:=LK.out W4 HB.out
   have hs4:=HB4.out.size
   have hgx:=eB GX.out
   have hex:=eB EX.out
   have WB4:=AS (show Below wc.heap.size wc W4 from HB4.out.trans (W4E.out.mono HB4.out.size))
   have GX4:=AS (kA GX.out WB4.out)
   have EX4:=AS (kA EX.out WB4.out)
   have HA4:=AS (show WA c (⟨wrap64 (s.steps+1),s.ticks,s.nodes,s.home,s.way⟩:S.World) b p [] [] w4.heap.size (fun x=>if x=w4.heap.size then 101 else if x < wc.heap.size then K1 x else 200) W4 from⟨WX.out.keep (pB (fun _=>False) WB4.out) (fun x hx h=>⟨(if_neg vB).trans (if_pos hx),id⟩),J U 0 0,J U 0 0,QN.out,OwnE.nil _,OwnE.nil _,by simp[foot_nil],by simp[foot_nil],by simp[foot_nil],if_pos rfl,by simp[foot_nil],by simp[foot_nil]⟩)
   have BX4:=AS (show Boxes b (⟨k_,a_,b_,c_,d_⟩:Ent) w.heap.size (w.heap.size+1) (fun x=>if x=w4.heap.size then 101 else if x < wc.heap.size then K1 x else 200) W4 from⟨GX4.out,EX4.out,(if_neg vB).trans ((if_pos vB).trans KK.out.2.2.1),(if_neg vB).trans ((if_pos vB).trans KK.out.2.2.2)⟩)
   have K4X:=AS (show(∀ x,x < wc.heap.size->(fun x=>if x=w4.heap.size then 101 else if x < wc.heap.size then K1 x else 200) x=K1 x)/\∀ x,wc.heap.size≤x->x≠w4.heap.size->(fun x=>if x=w4.heap.size then 101 else if x < wc.heap.size then K1 x else 200) x=200 from⟨fun x hx=>(if_neg vB).trans (if_pos hx),fun x hx hn=>(if_neg hn).trans (if_neg vB)⟩)
   have C4:=AS (HC4.out.keep (F':=fun x=>wc.heap.size≤x/\x < w4.heap.size) (pB (fun _=>False) W4E.out) (fun x hx h=>⟨⟨h,hx⟩,id⟩))
   generalize (fun x=>if x=w4.heap.size then 101 else if x < wc.heap.size then K1 x else 200)=K4 at HA4 BX4 K4X
   have C4:=AS (C4.out.keep (F':=fun x=>K4 x=200/\w.heap.size≤x/\x < w4.heap.size) (qB (fun _=>False) _) (fun x _ h=>⟨⟨K4X.out.2 x h.1 (by have:=h.2;omega),by have:=HKX.out.size;have:=h.1;omega,h.2⟩,id⟩))
   clear LK HB hgx hex WX GX EX QN WB4 HC4
   have hk4:k_=1∨k_=2∨k_=3∨(k_≠1/\k_≠2/\k_≠3/\k_=4):=by
    unfold Ent.legal at hlg
    simp only at hlg
    by_cases q1:k_=1
    ·exact .inl q1
    rw[if_neg q1] at hlg
    by_cases q2:k_=2∨k_=3
    ·rcases q2 with q | q
     ·exact .inr (.inl q)
     ·exact .inr (.inr (.inl q))
    rw[if_neg q2] at hlg
    simp only[beq_iff_eq] at hlg
    exact .inr (.inr (.inr ⟨vB,vB,vB,hlg⟩))
   have HACT:=AS (show ∃ R,((⟨wrap64 (s.steps+1),s.ticks,s.nodes,s.home,s.way⟩:S.World)).acts c (⟨k_,a_,b_,c_,d_⟩:Ent)=R from⟨_,rfl⟩)
   obtain⟨R,hact⟩:=HACT.out
   have HR2:=AS (hact ▸ HR.out)
   have HACT:=AS hact
   clear HR hact
   have k0:=cw EX4.out 0 (v:=V I k_)
   have HLG:=AS hlg
   clear hlg
   go_cut [37] (fun v37 wx=>v37=aA (!R.1)/\∃ K7,(∀ x,x < W4.heap.size->K7 x=K4 x)/\WA c R.2.1 b p R.2.2.1 R.2.2.2 w4.heap.size K7 wx/\KS (fun x=>K4 x≤101) W4 wx)
   case first =>
    rcases hk4 with h1 | h1 | h1 | ⟨n1,n2,n3,h1⟩
    ·have CA:=AS (actIssue_any HS.out HA4.out (⟨k_,a_,b_,c_,d_⟩:Ent) BX4.out h1 HLG.out)
     rw[HACT.out] at CA
     have lk':(Instr.lookup 104 (.map (M (w4.heap.size+1))) (V I k_) false).run dA W4=.ok (.func (.func 27) #[] #[bA (M ⟨w.heap.size,0,U⟩),bA (M ⟨w.heap.size+1,0,U⟩),bA (M ⟨w4.heap.size,0,U⟩)]) W4:=by rw[lk];simp[fput,h1]
     clear lk h1
     (try clear n1 n2 n3)
     go_wp2_with fail
     refine CA.out.mono ?_
     rintro e w7 ⟨rfl,h7⟩
     have X7:=AS h7
     clear h7 CA lk'
     go_wp2_with fail
     go_meet
     obtain⟨K',a1,a2,a3⟩:=X7.out
     exact⟨rfl,K',a1,a2,a3⟩
    ·have CA:=AS (actDeliver_any HS.out HA4.out (⟨k_,a_,b_,c_,d_⟩:Ent) BX4.out h1)
     rw[HACT.out] at CA
     have lk':(Instr.lookup 104 (.map (M (w4.heap.size+1))) (V I k_) false).run dA W4=.ok (.func (.func 29) #[] #[bA (M ⟨w.heap.size,0,U⟩),bA (M ⟨w.heap.size+1,0,U⟩),bA (M ⟨w4.heap.size,0,U⟩)]) W4:=by rw[lk];simp[fput,h1]
     clear lk h1
     (try clear n1 n2 n3)
     go_wp2_with fail
     refine CA.out.mono ?_
     rintro e w7 ⟨rfl,h7⟩
     have X7:=AS h7
     clear h7 CA lk'
     go_wp2_with fail
     go_meet
     obtain⟨K',a1,a2,a3⟩:=X7.out
     exact⟨rfl,K',a1,a2,a3⟩
    ·have CA:=AS (actDrop_any HS.out HA4.out (⟨k_,a_,b_,c_,d_⟩:Ent) BX4.out h1)
     rw[HACT.out] at CA
     have lk':(Instr.lookup 104 (.map (M (w4.heap.size+1))) (V I k_) false).run dA W4=.ok (.func (.func 31) #[] #[bA (M ⟨w.heap.size,0,U⟩),bA (M ⟨w.heap.size+1,0,U⟩)]) W4:=by rw[lk];simp[fput,h1]
     clear lk h1
     (try clear n1 n2 n3)
     go_wp2_with fail
     refine CA.out.mono ?_
     rintro e w7 ⟨rfl,h7⟩
     have X7:=AS h7
     clear h7 CA lk'
     go_wp2_with fail
     go_meet
     obtain⟨K',a1,a2,a3⟩:=X7.out
     exact⟨rfl,K',a1,a2,a3⟩
    ·have CA:=AS (actTick_any HS.out HA4.out (⟨k_,a_,b_,c_,d_⟩:Ent) BX4.out n1 n2 n3)
     rw[HACT.out] at CA
     have lk':(Instr.lookup 104 (.map (M (w4.heap.size+1))) (V I k_) false).run dA W4=.ok (.func (.func 33) #[] #[bA (M ⟨w.heap.size,0,U⟩),bA (M ⟨w.heap.size+1,0,U⟩),bA (M ⟨w4.heap.size,0,U⟩)]) W4:=by rw[lk];simp[fput,h1]
     clear lk h1
     (try clear n1 n2 n3)
     go_wp2_with fail
     refine CA.out.mono ?_
     rintro e w7 ⟨rfl,h7⟩
     have X7:=AS h7
     clear h7 CA lk'
     go_wp2_with fail
     go_meet
     obtain⟨K',a1,a2,a3⟩:=X7.out
     exact⟨rfl,K',a1,a2,a3⟩
   case rest =>
    obtain⟨rfl,K7,x1,x2,x3⟩:=hcut
    have hst:=acts_steps c ((⟨wrap64 (s.steps+1),s.ticks,s.nodes,s.home,s.way⟩:S.World)) (⟨k_,a_,b_,c_,d_⟩:Ent)
    rw[HACT.out] at hst
    simp only at hst
    obtain⟨ok,s',ls,ds⟩:=R
    simp only at hst x2
    have HSTP:=AS hst
    have FINW:=AS (show ∀ (wf:cA) (Kf:Nat->Nat) (sf:S.World),WldK c sf b p Kf wf->(∀ x,x < W4.heap.size->Kf x=K4 x)->KS (fun x=>K4 x≤101) W4 wf->WldAt c sf b (gr F w) wf/\KS F w wf from by
     intro wf Kf sf hw hk hks
     have hz1:=HKX.out.size
     have hz2:=HB4.out.size
     have hz3:=W4E.out.size
     refine⟨⟨p,Kf,hw,fun x hx h100=>?_⟩,?_⟩
     ·by_cases hl:x < w.heap.size
      ·rw[hk x vB,K4X.out.1 x vB,KK.out.2.1 x hl] at h100
       exact .inl (HF.out x hl vB)
      ·exact .inr vB
     ·refine(HKX.out.mono (fun x hx h=>HF.out x hx h)).trans ((pB _ (HB4.out.trans (W4E.out.mono HB4.out.size))).trans hks (fun x hx h=>h)) (fun x hx h=>?_)
      have h':K4 x≤101:=h
      rw[K4X.out.1 x vB,KK.out.2.1 x hx] at h'
      exact HF.out x hx h')
    have GX7:=AS (x3.at_ GX4.out (by have:=BX4.out.2.2.1;show ¬ K4 _≤101;omega))
    have X7:=AS (qA x1 (qA x2 x3))
    have HR3:=HR2.out
    simp only at HR3
    clear hst x1 x2 x3 lk k0 HACT HR2
    cases ok with
    | false =>
     simp only[Bool.not_false,if_true] at HR3
     have HR4:=AS HR3
     clear HR3
     go_wp2
     go_ret2
     rw[HR4.out]
     obtain⟨f1,f2⟩:=FINW.out _ K7 _ X7.out.2.1.1 X7.out.1 X7.out.2.2
     exact⟨U,0,0,rfl,f1,OwnE.nil _,f2⟩
    | true =>
     simp only[Bool.not_true,vA,if_false] at HR3
     have HR4:=AS HR3
     clear HR3
     have hal:=X7.out.2.1.2
     obtain⟨vl,vd,hV⟩:=hal
     obtain⟨A1,c1,rfl,hr1,hcr1,hm1,-⟩:=hV.2.1.row
     obtain⟨A2,c2,rfl,hr2,hcr2,hm2,hno2⟩:=hV.2.2.1.row
     have HV:=AS hV
     have HW7:=AS X7.out.2.1.1.1
     have SD:=AS (netSend_any (c2:=c1) (w:=wc.drew) ((X7.out.2.1.1.2.2.2.2.2.1.keep (F':=fun x=>x < wc.heap.size/\K7 x=3) (pB (fun _=>False) (iA (fA wc.heap.size wc))) (fun x hx hF=>⟨⟨hx,hF⟩,id⟩))) (ys:=ls) vB (fun i hi=>hr1 i hi))
     clear hV hr1 hcr1 hr2 hcr2 hno2
     have KEEP9:=AS (show ∀ x,KS (fun y=>y < wc.heap.size/\K7 y=3) wc x->(x.cell? ⟨w.heap.size,0,U⟩=M (bA (M ⟨b,0,U⟩))/\x.cell? ⟨b,13,U⟩=M (bA (M ⟨p.y,0,U⟩))/\x.cell? ⟨w4.heap.size,0,U⟩=M (J A1 ls.length c1)) from fun x hx=>by
      have z1:=HW7.out
      have hb1:=hx.at_ z1 (fun h=>by have h2:=h.2;have:=X7.out.2.1.1.2.1;omega)
      have hb2:=hx.at_ GX7.out (fun h=>by have h2:=h.2;have h3:=BX4.out.2.2.1;have:=X7.out.1 w.heap.size (eB GX4.out);omega)
      have hb3:=hx.at_ HV.out.1 (fun h=>by have h2:=h.2;have:=HV.out.2.2.2.2.2.2.1;omega)
      exact⟨cw hb2 0,cw hb1 13,cw hb3 0⟩)
     obtain⟨u0_,u1_,u2_⟩:=KEEP9.out wc (qB _ _)
     go_upto_region 9 with fail
     go_cut [45] (fun v45 wx=>v45=aA (!decide ((ls.length:Int)≤c.cap - s'.way.length))/\∃ K8,(∀ x,x < wc.heap.size->K8 x=K7 x)/\WA c { s' with way:=netSent c.cap s'.way ls } b p ls ds w4.heap.size K8 wx/\KS (fun x=>K7 x≤101) wc wx)
     case first =>
      go_region_held3 (fun x=>x.cell? ⟨w.heap.size,0,U⟩=M (bA (M ⟨b,0,U⟩))/\x.cell? ⟨b,13,U⟩=M (bA (M ⟨p.y,0,U⟩))/\x.cell? ⟨w4.heap.size,0,U⟩=M (J A1 ls.length c1)) ((refine KEEP9.out _ ?_;(repeat (with_reducible first | exact H1.out | apply sB | exact qB _ _)))) ((first | (go_at_call 35;refine SD.out.mono ?_;rintro e w8 ⟨rfl,hN,hk⟩;have H1:=AS (show KS (fun y=>y < wc.heap.size/\K7 y=3) wc w8 from hk);have F1:=AS (show NetAt c.cap (netSent c.cap s'.way ls) p.y (gr (fun x=>x < wc.heap.size/\K7 x=3) wc.drew) w8 from hN);clear hN hk) | fail))
      all_goals
       go_wp2_with fail
       go_meet
       obtain⟨K8,k1,-,k3,k4⟩:=X7.out.2.1.netted (X:=wc.drew) (iA (fA _ _)) F1.out H1.out
       exact⟨rfl,K8,k1,k3,k4⟩
     case rest =>
      obtain⟨rfl,K8,y1,y2,y3⟩:=hcut
      clear u0_ u1_ u2_
      have hz7:=X7.out.2.2.size
      have Y:=AS (qA y1 (qA y2 y3))
      have Y8:=AS (show ∀ x,x=w.heap.size->K8 x=200 from fun x hx=>by rw[hx,y1 _ (eB GX7.out),X7.out.1 _ (eB GX4.out)];exact BX4.out.2.2.1)
      have GX8:=AS (y3.at_ GX7.out (by have h3:=BX4.out.2.2.1;have:=X7.out.1 w.heap.size (eB GX4.out);show ¬ K7 _≤101;omega))
      have YF:=AS (FINW.out wc K8 _ y2.1 (fun x hx=>(y1 x vB).trans (X7.out.1 x hx)) (X7.out.2.2.trans y3 (fun x hx h=>by have h':K7 x≤101:=h;rw[X7.out.1 x hx] at h';exact h')))
      by_cases hfit:(ls.length:Int)≤c.cap - s'.way.length
      ·have hd:decide ((ls.length:Int)≤c.cap - s'.way.length)=true:=by simpa using hfit
       have hr5:=HR4.out.trans (if_neg vB)
       have HR5:=AS hr5
       have hsent:netSent c.cap s'.way ls=s'.way ++ ls:=if_pos hfit
       rw[hsent] at y2
       have Y2:=AS y2
       clear hr5 hfit y1 y3
       obtain⟨vl8,vd8,hV8⟩:=y2.2
       obtain⟨A8,c8,rfl,hr8,hcr8,hm8,hno8⟩:=hV8.2.2.1.row
       have HV8:=AS hV8
       have qc:=y2.1.1
       clear y2 hV8 hr8 hno8
       have q1_:=cw HV8.out.1 1 (v:=J A8 ds.length c8)
       rw[hd]
       go_wp2_with fail
       go_loopw [9,54] (fun v9 v54 wr=>∃ i:Nat,v54=V I i/\i≤ds.length/\Aside0 (OwnE doneE (J A8 ds.length c8) (stp (wrap64 (s.steps+1)) ds i) wr/\KS (fun x=>x∈foot (J A8 ds.length c8)) wc wr)) (fun _ v54 _=>c8+1 - (intOf v54).toNat)
       case atStart=>exact⟨0,rfl,vB,⟨by unfold stp;simpa using HV8.out.2.2.1,qB _ _⟩⟩
       case round =>
        obtain⟨i,rfl,hi,R⟩:=hrel
        have hfar:∀ g,K8 g≠101->g∉foot (J A8 ds.length c8):=fun g hg e=>hg (HV8.out.2.2.2.2.2.2.2.2 g e)
        have h4l:=eB HV8.out.1
        have B1:=AS (R.out.2.at_ HV8.out.1 (fun e=>HV8.out.2.2.2.2.1 e))
        have g1_:=cw B1.out 1 (v:=J A8 ds.length c8)
        by_cases hc:i < ds.length
        ·have q0:(0:Int)≤(i:Int):=vB
         have q1:(i:Int) < (ds.length:Int):=vB
         have hsl:=stp_len (st:=wrap64 (s.steps+1)) (Nat.le_of_lt hc)
         have hO:=R.out.1
         obtain⟨gd,cd,e,hcd1,hcd2,-,hcell⟩:=own_some hO (i:=i) vB
         injection e with e1 e2 e3
         subst e1 e3
         rw[hsl] at hcd2
         have hGX9:=R.out.2.at_ GX8.out (fun e=>by have h5:=HV8.out.2.2.2.2.2.2.2.2 _ e;have h3:=BX4.out.2.2.1;have h6:=X7.out.1 w.heap.size (eB GX4.out);have h7:=Y8.out _ rfl;omega)
         have hb9:=R.out.2.at_ Y2.out.1.1 (fun e=>by have h5:=HV8.out.2.2.2.2.2.2.2.2 _ e;have h6:=Y2.out.1.2.1;omega)
         have g2_:=cw hGX9 0 (v:=bA (M ⟨b,0,U⟩))
         have g3_:wr.cell? ⟨b,9,U⟩=M (V I (wrap64 (s.steps+1))):=by rw[<- HSTP.out];exact(cw hb9 9)
         have g4_:wr.cell? ⟨gd,i * 7+6,U⟩=M (V I ((stp (wrap64 (s.steps+1)) ds i).getD i doneE.d).step):=(hcell 6 yB).trans rfl
         have g5_:wr.frozen? ⟨gd,i * 7+6,U⟩=false:=own_frz hO _
         have NX:=AS (show OwnE doneE (J (M ⟨gd,0,U⟩) ds.length c8) (stp (wrap64 (s.steps+1)) ds (i+1)) (wr.drew.setCell ⟨gd,i * 7+6,U⟩ (V I (wrap64 (s.steps+1))))/\KS (fun x=>x∈foot (J (M ⟨gd,0,U⟩) ds.length c8)) wc (wr.drew.setCell ⟨gd,i * 7+6,U⟩ (V I (wrap64 (s.steps+1)))) from by
          have hOd:OwnE doneE (J (M ⟨gd,0,U⟩) (stp (wrap64 (s.steps+1)) ds i).length c8) (stp (wrap64 (s.steps+1)) ds i) wr.drew:=by
           rw[hsl];exact hO.ks ((qB (fun _=>False) wr).drew) (fun _ _=>id)
          have h1:=hOd.cell1 (i:=i) (j:=6) vB yB { ds.getD i doneE.d with step:=wrap64 (s.steps+1)} (V I (wrap64 (s.steps+1))) (by rw[stp_get doneE.d hc];rfl)
          rw[stp_set doneE.d hc,hsl] at h1
          exact⟨h1,KS.set (F:=fun x=>x∈foot (J (M ⟨gd,0,U⟩) ds.length c8)) R.out.2.drew (g:=gd) (.inl (by simp[foot_slice])) _ _⟩)
         have g1':wr.drew.cell? ⟨w4.heap.size,1,U⟩=M (J (M ⟨gd,0,U⟩) ds.length c8):=g1_
         have g2':wr.drew.cell? ⟨w.heap.size,0,U⟩=M (bA (M ⟨b,0,U⟩)):=g2_
         have g3':wr.drew.cell? ⟨b,9,U⟩=M (V I (wrap64 (s.steps+1))):=g3_
         have g4':wr.drew.cell? ⟨gd,i * 7+6,U⟩=M (V I ((stp (wrap64 (s.steps+1)) ds i).getD i doneE.d).step):=g4_
         have g5':wr.drew.frozen? ⟨gd,i * 7+6,U⟩=false:=g5_
         generalize ((stp (wrap64 (s.steps+1)) ds i).getD i doneE.d).step=so at g4_ g4'
         clear hcell hO hsl hfar hGX9 hb9 q1_
         go_upto_region 15 with fail
         go_region
         all_goals
          go_wp2
          go_roundw
          case rel=>exact⟨i+1,by go_num,vB,⟨NX.out⟩⟩
          case measure=>simp[intOf];omega
        ·have hin:i=ds.length:=vB
         subst hin
         have g1':wr.drew.cell? ⟨w4.heap.size,1,U⟩=M (J A8 ds.length c8):=g1_
         clear q1_ hfar
         go_wp2_with fail
         go_quiet (fail)
         go_wp2
         go_ret2
         rw[HR5.out]
         have hkq:KS (fun x=>x∈foot (J A8 ds.length c8)) wc (wr.drewN nq):=R.out.2.drewN nq
         have hcl:∀ x∈foot (J A8 ds.length c8),K8 x=101:=HV8.out.2.2.2.2.2.2.2.2
         obtain⟨z1,z2,z3⟩:=Y.out
         have hz8:=z3.size
         have hK47:∀ x,x < W4.heap.size->K8 x=K4 x:=fun x hx=>(z1 x vB).trans (X7.out.1 x hx)
         obtain⟨f1,f2⟩:=FINW.out (wr.drewN nq) (rec_ K8 wc 200) _ (Y2.out.1.keep hkq (fun x hx h100=>⟨jB hx,fun e=>by have:=hcl x e;omega⟩)) (fun x hx=>(jB vB).trans (hK47 x hx)) ((X7.out.2.2.trans z3 (fun x hx h=>by have h':K7 x≤101:=h;rw[X7.out.1 x hx] at h';exact h')).trans hkq (fun x hx e=>by have:=hcl x e;rw[hK47 x hx] at this;show K4 x≤101;omega))
         refine⟨A8,ds.length,c8,rfl,f1,?_,f2⟩
         have:=R.out.1
         rw[stp_end] at this
         exact this.ks ((qB (fun _=>False) wr).drewN nq) (fun _ _=>id)
      ·have hd:decide ((ls.length:Int)≤c.cap - s'.way.length)=false:=by simpa using hfit
       have hr5:=HR4.out.trans (if_pos vB)
       have HR5:=AS hr5
       have hw4:=W4E.out.size
       have C8:=(C4.out.keep (F':=fun x=>K4 x=200/\w.heap.size≤x/\x < w4.heap.size) X7.out.2.2 (fun x hx h=>⟨h,by have:=h.1;show ¬ K4 x≤101;omega⟩)).keep (F':=fun x=>w.heap.size≤x/\x < w4.heap.size) y3 (fun x hx h=>⟨h.2,by have h1:=X7.out.1 x (by have:=h.2.2;omega);have:=h.1;show ¬ K7 x≤101;omega⟩)
       obtain⟨p2,Kc,hKc,hFc⟩:=C8
       have hKb:100≤Kc b:=by
        by_cases q:Kc b < 100
        ·have:=(hFc b (by have:=eB y2.1.1;omega) q).1;omega
        ·omega
       have HC8:=AS (qA hKc (qA hFc hKb))
       have hne:b2≠b:=fun e=>by have:=hKc.2.1;rw[e] at this;omega
       have HB1:=AS y2.1.1
       have HNE:=AS hne
       have KEEP10:=AS (show ∀ x,KS (fun y=>y=b) wc x->(x.cell? ⟨w.heap.size,0,U⟩=M (bA (M ⟨b,0,U⟩))/\x.cell? ⟨b2,0,U⟩=M (V I c.nodes)/\x.cell? ⟨b2,1,U⟩=M (V I c.blocks)/\x.cell? ⟨b2,2,U⟩=M (V I c.tokens)/\x.cell? ⟨b2,3,U⟩=M (V I c.sets)/\x.cell? ⟨b2,4,U⟩=M (V I c.ways)/\x.cell? ⟨b2,5,U⟩=M (V I c.cap)/\x.cell? ⟨b2,6,U⟩=M (V I c.wait)/\x.cell? ⟨b2,7,U⟩=M (V I c.tries)/\x.cell? ⟨b2,8,U⟩=M (V I c.policy)/\x.cell? ⟨b2,9,U⟩=M (V I (wrap64 (s.steps+1)))/\x.cell? ⟨b2,10,U⟩=M (V I s.ticks)/\x.cell? ⟨b2,11,U⟩=M (J p2.A p2.ns.length p2.cp)/\x.cell? ⟨b2,12,U⟩=M (bA (M ⟨p2.h,0,U⟩))/\x.cell? ⟨b2,13,U⟩=M (bA (M ⟨p2.y,0,U⟩))) from fun x hx=>by
        have hb1:=hx.at_ HC8.out.1.1 HNE.out
        have hb2:=hx.at_ GX8.out vB
        exact⟨cw hb2 0,cw hb1 0,cw hb1 1,cw hb1 2,cw hb1 3,cw hb1 4,cw hb1 5,cw hb1 6,cw hb1 7,cw hb1 8,cw hb1 9,cw hb1 10,cw hb1 11,cw hb1 12,cw hb1 13⟩)
       obtain⟨s9,s10,hs9⟩:∃ s9 s10,wc.heap[b]?=M (O #[V I c.nodes,V I c.blocks,V I c.tokens,V I c.sets,V I c.ways,V I c.cap,V I c.wait,V I c.tries,V I c.policy,s9,s10,J p.A p.ns.length p.cp,bA (M ⟨p.h,0,U⟩),bA (M ⟨p.y,0,U⟩)] 91 (0,0)):=⟨_,_,y2.1.1⟩
       have HS9:=AS hs9
       obtain⟨u0_,u1_,u2_,u3_,u4_,u5_,u6_,u7_,u8_,u9_,u10_,u11_,u12_,u13_,u14_⟩:=KEEP10.out wc (qB _ _)
       have v0_:=cw (fB hs9) 0 (v:=V I c.nodes)
       have v1_:=cw (fB hs9) 1 (v:=V I c.blocks)
       have v2_:=cw (fB hs9) 2 (v:=V I c.tokens)
       have v3_:=cw (fB hs9) 3 (v:=V I c.sets)
       have v4_:=cw (fB hs9) 4 (v:=V I c.ways)
       have v5_:=cw (fB hs9) 5 (v:=V I c.cap)
       have v6_:=cw (fB hs9) 6 (v:=V I c.wait)
       have v7_:=cw (fB hs9) 7 (v:=V I c.tries)
       have v8_:=cw (fB hs9) 8 (v:=V I c.policy)
       have v9_:=cw (fB hs9) 9 (v:=s9)
       have v10_:=cw (fB hs9) 10 (v:=s10)
       have v11_:=cw (fB hs9) 11 (v:=J p.A p.ns.length p.cp)
       have v12_:=cw (fB hs9) 12 (v:=bA (M ⟨p.h,0,U⟩))
       have v13_:=cw (fB hs9) 13 (v:=bA (M ⟨p.y,0,U⟩))
       have x0_:=jA (fB hs9) 0
       have x1_:=jA (fB hs9) 1
       have x2_:=jA (fB hs9) 2
       have x3_:=jA (fB hs9) 3
       have x4_:=jA (fB hs9) 4
       have x5_:=jA (fB hs9) 5
       have x6_:=jA (fB hs9) 6
       have x7_:=jA (fB hs9) 7
       have x8_:=jA (fB hs9) 8
       have x9_:=jA (fB hs9) 9
       have x10_:=jA (fB hs9) 10
       have x11_:=jA (fB hs9) 11
       have x12_:=jA (fB hs9) 12
       have x13_:=jA (fB hs9) 13
       have vv0_:=cw (hs9) 0 (v:=V I c.nodes)
       have vv1_:=cw (hs9) 1 (v:=V I c.blocks)
       have vv2_:=cw (hs9) 2 (v:=V I c.tokens)
       have vv3_:=cw (hs9) 3 (v:=V I c.sets)
       have vv4_:=cw (hs9) 4 (v:=V I c.ways)
       have vv5_:=cw (hs9) 5 (v:=V I c.cap)
       have vv6_:=cw (hs9) 6 (v:=V I c.wait)
       have vv7_:=cw (hs9) 7 (v:=V I c.tries)
       have vv8_:=cw (hs9) 8 (v:=V I c.policy)
       have vv9_:=cw (hs9) 9 (v:=s9)
       have vv10_:=cw (hs9) 10 (v:=s10)
       have vv11_:=cw (hs9) 11 (v:=J p.A p.ns.length p.cp)
       have vv12_:=cw (hs9) 12 (v:=bA (M ⟨p.h,0,U⟩))
       have vv13_:=cw (hs9) 13 (v:=bA (M ⟨p.y,0,U⟩))
       have xx0_:=jA hs9 0
       have xx1_:=jA hs9 1
       have xx2_:=jA hs9 2
       have xx3_:=jA hs9 3
       have xx4_:=jA hs9 4
       have xx5_:=jA hs9 5
       have xx6_:=jA hs9 6
       have xx7_:=jA hs9 7
       have xx8_:=jA hs9 8
       have xx9_:=jA hs9 9
       have xx10_:=jA hs9 10
       have xx11_:=jA hs9 11
       have xx12_:=jA hs9 12
       have xx13_:=jA hs9 13
       clear hs9 hKc hFc hKb y1 y2 y3 hr5 hfit
       rw[hd]
       go_upto_region 10 with fail
       go_region_held3 (fun x=>x.cell? ⟨w.heap.size,0,U⟩=M (bA (M ⟨b,0,U⟩))/\x.cell? ⟨b2,0,U⟩=M (V I c.nodes)/\x.cell? ⟨b2,1,U⟩=M (V I c.blocks)/\x.cell? ⟨b2,2,U⟩=M (V I c.tokens)/\x.cell? ⟨b2,3,U⟩=M (V I c.sets)/\x.cell? ⟨b2,4,U⟩=M (V I c.ways)/\x.cell? ⟨b2,5,U⟩=M (V I c.cap)/\x.cell? ⟨b2,6,U⟩=M (V I c.wait)/\x.cell? ⟨b2,7,U⟩=M (V I c.tries)/\x.cell? ⟨b2,8,U⟩=M (V I c.policy)/\x.cell? ⟨b2,9,U⟩=M (V I (wrap64 (s.steps+1)))/\x.cell? ⟨b2,10,U⟩=M (V I s.ticks)/\x.cell? ⟨b2,11,U⟩=M (J p2.A p2.ns.length p2.cp)/\x.cell? ⟨b2,12,U⟩=M (bA (M ⟨p2.h,0,U⟩))/\x.cell? ⟨b2,13,U⟩=M (bA (M ⟨p2.y,0,U⟩))) ((refine KEEP10.out _ ?_;(repeat (with_reducible first | refine tB ?_ _ _ | apply KS.alloc | apply sB | exact qB _ _)))) ((fail))
       all_goals
        clear v0_ x0_ v1_ x1_ v2_ x2_ v3_ x3_ v4_ x4_ v5_ x5_ v6_ x6_ v7_ x7_ v8_ x8_ v9_ x9_ v10_ x10_ v11_ x11_ v12_ x12_ v13_ x13_ u0_ u1_ u2_ u3_ u4_ u5_ u6_ u7_ u8_ u9_ u10_ u11_ u12_ u13_ u14_
        go_wp2
        go_ret2
        rw[HR5.out]
        refine⟨U,0,0,rfl,⟨p2,_,HC8.out.1.moved (b:=b) ?_ ?_ HC8.out.2.2,fun x hx h100=>?_⟩,OwnE.nil _,YF.out.2.trans (G:=fun y=>y=b) ?_ (fun x hx e=>?_)⟩
        ·apply blk_as
         ·(repeat (with_reducible first | apply mA | apply fB | exact HS9.out))
         ·simp[wldC]
        ·(repeat (with_reducible first | refine tB ?_ _ _ | apply KS.alloc | apply sB | exact qB _ _))
        ·by_cases e1:x=b
         ·rw[e1];exact .inl (HF.out b hbl (by have:=HW.out.2.1;omega))
         ·by_cases e2:x=b2
          ·simp only[if_neg e1,if_pos e2] at h100;omega
          ·simp only[if_neg e1,if_neg e2] at h100
           simp only[World.size_setCell,World.size_drew] at hx
           exact .inr (HC8.out.2.1 x hx h100).1
        ·(repeat (with_reducible first | refine tB ?_ _ _ | apply KS.alloc | apply sB | exact qB _ _))
        ·have e':x=b:=e
         rw[e'];exact HF.out b hbl (by have:=HW.out.2.1;omega)
end Go.Proofs.YtiebppkhaiofeaaGreat.K
