/- Part of the proof of TopPolicies: what functions of the program do. -/
import Derived.Test.YtiebppkhaiofeaaGreatP21
import Derived.Test.YtiebppkhaiofeaaGreatP00
set_option maxHeartbeats 4000000
set_option maxRecDepth 100000
set_option linter.unusedVariables false
set_option linter.unusedSimpArgs false
open Go.IntKind renaming i64→I
open Go.Value renaming slice→J, int→V, bool→aA, pointer→bA
open Option renaming some→M, none→U
open Go.Obj renaming cells→O
open Go renaming Calls→bB, World→cA
open List renaming getD_eq_getElem?_getD→cB, mem_singleton→tA
open Go.Proofs.Tryz renaming prog→dA
open Go.Proofs.YtiebppkhaiofeaaGreatW.PrintWords renaming below_alloc→eA, blk_lt→eB, blk_frozen→jA, blk_below→kA, blk_alloc→lA, blk_set→mA, blk_new→nA
open Go.RowKit.Below renaming refl→fA, drew→iA
open Go.Proofs.YtiebppkhaiofeaaGreat.K renaming sz_alloc→gB, sz_drew→iB
open Nat renaming le_trans→lB
open Go.Proofs.YtiebppkhaiofeaaGreat.K.KS renaming below→pB, refl→qB, drew→sB
open And renaming intro→qA
namespace Go.Proofs.YtiebppkhaiofeaaGreat.K
open Go.RowKit Go.Proofs.YtiebppkhaiofeaaGreatW.PrintWords Go.Proofs.YtiebppkhaiofeaaGreat.S
attribute [local go_sem] World.cell?_alloc_some
open Go.ChangeMaps Go.MapKept
section
variable {c:Cfg} {s s':S.World} {b q:Nat} {p:WPt} {K K':Nat->Nat} {w w' w1 w2 w3 X:cA} {G:Set_}
open Classical in
theorem WldK.mk0 {F2 F3:Set_} {st tk:Int} {h:S.Home} {xs:List Let} {hp y:Nat} (hB:w.heap[b]?=M (O (wldC c ⟨st,tk,[],h,xs⟩ ⟨hp,y,U,0,[]⟩) 91 (0,0))) (hH:HomeAt c h hp F2 w) (hN:NetAt c.cap xs y F3 w) (d1:¬ F2 b) (d2:¬ F3 b) (d3:∀ x,F2 x->¬ F3 x) :
  WldK c ⟨st,tk,[],h,xs⟩ b ⟨hp,y,U,0,[]⟩ (fun x=>if x=b then 0 else if F2 x then 2 else if F3 x then 3 else 200) w:=by
 refine⟨hB,if_pos rfl,OwnE.nil _,(fun x hx=>by simp[WPt.v,foot_nil] at hx),hH.keep (qB (fun _=>False) _) (fun x _ hx=>⟨?_,id⟩),hN.keep (qB (fun _=>False) _) (fun x _ hx=>⟨?_,id⟩),rfl,(by show 0≤64;omega),(fun i hi=>absurd hi (by show ¬ i < 0;omega))⟩
 ·have:x≠b:=fun e=>d1 (e ▸ hx)
  simp only[if_neg this,if_pos hx]
 ·have:x≠b:=fun e=>d2 (e ▸ hx)
  have h2:¬ F2 x:=fun e=>d3 x e hx
  simp only[if_neg this,if_neg h2,if_pos hx]
open Classical in
theorem WldK.push {n:S.Node} {b' cp':Nat} {A':Option Addr} (h:WldK c s b p K w) (hw:Below w.heap.size w w2) (hN:NodeAt c n b' G w2) (hG:∀ x,G x->w.heap.size≤x) (hlt:p.ns.length < 64) (hO:OwnE ptrE (J A' (p.ns.length+1) cp') (p.ns.map M ++ [M b']) w3)
  (hk:KS (fun x=>x∈foot p.v) w2 w3) (hf:∀ x∈foot (J A' (p.ns.length+1) cp'),x∈foot p.v∨w2.heap.size≤x) :
  ∃ K',(∀ x,x < w.heap.size->K' x=K x)/\WldK c { s with nodes:=s.nodes ++ [n]} b ⟨p.h,p.y,A',cp',p.ns ++ [b']⟩ K' (w3.setCell ⟨b,11,U⟩ (J A' (p.ns.length+1) cp'))/\KS (fun x=>K x≤1) w (w3.setCell ⟨b,11,U⟩ (J A' (p.ns.length+1) cp')):=by
 obtain⟨h1,h2,h3,h4,h5,h6,h7,h8,h9⟩:=h
 have hs2:=hw.size
 have hs3:=hk.size
 have hbl:=eB h1
 have hfp:∀ x∈foot p.v,x < w.heap.size/\K x=1:=fun x hx=>⟨h3.lt x hx,h4 x hx⟩
 have hbf:b∉foot p.v:=fun e=>by have:=(hfp b e).2;omega
 let K':Nat->Nat:=fun x=>if x < w.heap.size then K x else if x∈foot (J A' (p.ns.length+1) cp') then 1 else if G x then 4+p.ns.length else 200
 have ko:∀ x,x < w.heap.size->K' x=K x:=fun x hx=>if_pos hx
 have hW:KS (fun x=>K x≤1) w w3:=(pB _ hw).trans hk (fun x _ hx=>by have:=(hfp x hx).2;show K x≤1;omega)
 have hkb:=KS.set (qB (fun x=>x=b) w3) (.inl rfl) 11 (J A' (p.ns.length+1) cp') (g:=b)
 have hF:KS (fun x=>K x≤1) w (w3.setCell ⟨b,11,U⟩ (J A' (p.ns.length+1) cp')):=hW.trans hkb (fun x _ e=>by have e':x=b:=e;show K x≤1;rw[e',h2];omega)
 have gt:∀ {x k:Nat},x < w.heap.size->K x=k->2≤k->K' x=k/\¬ K x≤1:=fun hx e h=>⟨(ko _ hx).trans e,vB⟩
 refine⟨K',ko,⟨?_,(ko b hbl).trans h2,?_,fun x hx=>?_,h5.keep hF (fun x hx e=>gt hx e vB),h6.keep hF (fun x hx e=>gt hx e vB),by simp[h7],by simp;omega,fun i hi=>?_⟩,hF⟩
 ·have:=mA (hk.at_ (kA h1 hw) hbf) 11 (J A' (p.ns.length+1) cp')
  refine this.trans ?_
  simp[wldC]
 ·have:=hO.ks hkb (fun x hx e=>by
   have e':x=b:=e
   rcases hf x hx with h | h
   ·exact hbf (e' ▸ h)
   ·omega)
  simpa [WPt.v] using this
 ·have hx':x∈foot (J A' (p.ns.length+1) cp'):=by simpa [WPt.v] using hx
  by_cases hl:x < w.heap.size
  ·rcases hf x hx' with h | h
   ·exact(ko x hl).trans (h4 x h)
   ·omega
  ·show K' x=1
   simp only[K',if_neg hl,if_pos hx']
 ·have hi':i < p.ns.length+1:=by simpa using hi
  by_cases e:i=p.ns.length
  ·subst e
   have e1:(s.nodes ++ [n]).getD p.ns.length (S.Node.new p.ns.length)=n:=by rw[cB,List.getElem?_append_right vB,h7];simp
   have e2:(p.ns ++ [b']).getD p.ns.length 0=b':=by rw[cB,List.getElem?_append_right vB];simp
   show NodeAt c ((s.nodes ++ [n]).getD p.ns.length (S.Node.new p.ns.length)) ((p.ns ++ [b']).getD p.ns.length 0) _ _
   rw[e1,e2]
   have hk2:KS (fun x=>x∈foot p.v∨x=b) w2 (w3.setCell ⟨b,11,U⟩ (J A' (p.ns.length+1) cp')):=(hk.mono (fun _ _ h=>.inl h)).trans hkb (fun _ _ h=>.inr h)
   refine hN.keep hk2 (fun x hx hg=>?_)
   have hge:=hG x hg
   have hnf:x∉foot (J A' (p.ns.length+1) cp'):=fun hx'=>by
    rcases hf x hx' with h | h
    ·have:=(hfp x h).1;omega
    ·omega
   refine⟨by show K' x=_;simp only[K',if_neg (show ¬ x < w.heap.size by omega),if_neg hnf,if_pos hg],fun hq=>?_⟩
   rcases hq with h | h
   ·have:=(hfp x h).1;omega
   ·have h':x=b:=h
    omega
  ·have hil:i < p.ns.length:=vB
   have e1:(s.nodes ++ [n]).getD i (S.Node.new i)=s.nodes.getD i (S.Node.new i):=by rw[cB,List.getElem?_append_left vB,cB]
   have e2:(p.ns ++ [b']).getD i 0=p.ns.getD i 0:=by rw[cB,List.getElem?_append_left vB,cB]
   show NodeAt c ((s.nodes ++ [n]).getD i (S.Node.new i)) ((p.ns ++ [b']).getD i 0) _ _
   rw[e1,e2]
   exact(h9 i hil).keep hF (fun x hx e=>gt hx e vB)
end
def WldAt (c:Cfg) (s:S.World) (b:Nat) (F:Set_) (w:cA):Prop:=∃ p K,WldK c s b p K w/\∀ x,x < w.heap.size->K x < 100->F x
theorem homeCopy_lays {c:Cfg} {h:S.Home} {b:Nat} {F:Set_} {w X:cA} (hH:HomeAt c h b F w) (hne:h.queue.rows≠[]) (hql:∀ r∈h.queue.rows,r.queue.length≤1000000) (hb:Below w.heap.size w X):bB dA 51 #[bA (M ⟨b,0,U⟩)] X fun e w'=>∃ b',e=.returned (bA (M ⟨b',0,U⟩))/\Lays (HomeAt c h b') X w' :=
 (homeCopy_any (hH.keep (pB (fun _=>False) hb) (fun x _ hF=>⟨hF,id⟩)) hne hql).mono fun e w' ⟨b,he,h,hb⟩=>⟨b,he,h.keep (qB (fun _=>False) _) (fun x hx hF=>⟨⟨hF,hx⟩,id⟩),hb⟩
theorem netCopy_lays {rm:Int} {xs:List Let} {b:Nat} {F:Set_} {w X:cA} (hH:NetAt rm xs b F w) (hb:Below w.heap.size w X):bB dA 52 #[bA (M ⟨b,0,U⟩)] X fun e w'=>∃ b',e=.returned (bA (M ⟨b',0,U⟩))/\Lays (NetAt rm xs b') X w' :=
 (netCopy_any (hH.keep (pB (fun _=>False) hb) (fun x _ hF=>⟨hF,id⟩))).mono fun e w' ⟨b,he,h,hb⟩=>⟨b,he,h.keep (qB (fun _=>False) _) (fun x hx hF=>⟨⟨hF,hx⟩,id⟩),hb⟩
theorem nodeCopy_lays {c:Cfg} {n:S.Node} {b:Nat} {F:Set_} {w X:cA} (hH:NodeAt c n b F w) (hb:Below w.heap.size w X):bB dA 53 #[bA (M ⟨b,0,U⟩)] X fun e w'=>∃ b',e=.returned (bA (M ⟨b',0,U⟩))/\Lays (NodeAt c n b') X w' :=
 (nodeCopy_any (hH.keep (pB (fun _=>False) hb) (fun x _ hF=>⟨hF,id⟩))).mono fun e w' ⟨b,he,h,hb⟩=>⟨b,he,h.keep (qB (fun _=>False) _) (fun x hx hF=>⟨⟨hF,hx⟩,id⟩),hb⟩
theorem worldCopy_any {c:Cfg} {s:S.World} {b:Nat} {F:Set_} {w:cA} (hW:WldAt c s b F w) (hne:s.home.queue.rows≠[]) (hql:∀ r∈s.home.queue.rows,r.queue.length≤1000000):bB dA 26 #[bA (M ⟨b,0,U⟩)] w fun e w'=>∃ b',e=.returned (bA (M ⟨b',0,U⟩))/\WldAt c s b' (nw w) w'/\Below w.heap.size w w':=by
 obtain⟨p,K,hK,-⟩:=hW
 have HW:=AS hK
 have HC:=AS (fun X hb=>homeCopy_lays (X:=X) hK.2.2.2.2.1 hne hql hb)
 have NC:=AS (fun X hb=>netCopy_lays (X:=X) hK.2.2.2.2.2.1 hb)
 have ND:=AS (fun i hi X hb=>nodeCopy_lays (X:=X) (hK.2.2.2.2.2.2.2.2 i hi) hb)
 have hnl:=hK.2.2.2.2.2.2.1
 have hn64:=hK.2.2.2.2.2.2.2.1
 have hbl:=eB hK.1
 clear hK hne hql
 have KEEP:=AS (show ∀ x,Below w.heap.size w x->(x.cell? ⟨b,0,U⟩=M (V I c.nodes)/\x.cell? ⟨b,1,U⟩=M (V I c.blocks)/\x.cell? ⟨b,2,U⟩=M (V I c.tokens)/\x.cell? ⟨b,3,U⟩=M (V I c.sets)/\x.cell? ⟨b,4,U⟩=M (V I c.ways)/\x.cell? ⟨b,5,U⟩=M (V I c.cap)/\x.cell? ⟨b,6,U⟩=M (V I c.wait)/\x.cell? ⟨b,7,U⟩=M (V I c.tries)/\x.cell? ⟨b,8,U⟩=M (V I c.policy)/\x.cell? ⟨b,9,U⟩=M (V I s.steps)/\x.cell? ⟨b,10,U⟩=M (V I s.ticks)/\x.cell? ⟨b,12,U⟩=M (bA (M ⟨p.h,0,U⟩))/\x.cell? ⟨b,13,U⟩=M (bA (M ⟨p.y,0,U⟩))) from fun x hx=>by
  have hb1:=kA HW.out.1 hx
  exact⟨cw hb1 0,cw hb1 1,cw hb1 2,cw hb1 3,cw hb1 4,cw hb1 5,cw hb1 6,cw hb1 7,cw hb1 8,cw hb1 9,cw hb1 10,cw hb1 12,cw hb1 13⟩)
 obtain⟨e0_,e1_,e2_,e3_,e4_,e5_,e6_,e7_,e8_,e9_,e10_,e11_,e12_⟩:=KEEP.out w (fA _ _)
 go_enter Tryz.func26,Tryz.ntmps26
 go_upto_region 1 with fail
 go_cut [3] (fun v3 wx=>∃ g0,v3=bA (M ⟨g0,0,U⟩)/\(∃ p' K',WldK c (⟨s.steps,s.ticks,s.nodes.take 0,s.home,s.way⟩:S.World) g0 p' K' wx/\(∀ x,x < wx.heap.size->K' x < 100->w.heap.size≤x)/\Below w.heap.size w wx))
 case first =>
  go_region_held3 (fun x=>x.cell? ⟨b,0,U⟩=M (V I c.nodes)/\x.cell? ⟨b,1,U⟩=M (V I c.blocks)/\x.cell? ⟨b,2,U⟩=M (V I c.tokens)/\x.cell? ⟨b,3,U⟩=M (V I c.sets)/\x.cell? ⟨b,4,U⟩=M (V I c.ways)/\x.cell? ⟨b,5,U⟩=M (V I c.cap)/\x.cell? ⟨b,6,U⟩=M (V I c.wait)/\x.cell? ⟨b,7,U⟩=M (V I c.tries)/\x.cell? ⟨b,8,U⟩=M (V I c.policy)/\x.cell? ⟨b,9,U⟩=M (V I s.steps)/\x.cell? ⟨b,10,U⟩=M (V I s.ticks)/\x.cell? ⟨b,12,U⟩=M (bA (M ⟨p.h,0,U⟩))/\x.cell? ⟨b,13,U⟩=M (bA (M ⟨p.y,0,U⟩))) ((refine KEEP.out _ ?_;(repeat (with_reducible first | refine Lays.chain H2.out ?_ | refine Lays.chain H1.out ?_ | apply eA | apply iA | exact fA _ _)))) ((first | (go_at_call 51;refine(HC.out _ ?_).mono ?_;(focus ((repeat (with_reducible first | refine Lays.chain H2.out ?_ | refine Lays.chain H1.out ?_ | apply eA | apply iA | exact fA _ _))));rintro e w1 ⟨hp1,rfl,hC⟩;have H1:=AS hC;clear hC) | (go_at_call 52;refine(NC.out _ ?_).mono ?_;(focus ((repeat (with_reducible first | refine Lays.chain H2.out ?_ | refine Lays.chain H1.out ?_ | apply eA | apply iA | exact fA _ _))));rintro e w2 ⟨y1,rfl,hC⟩;have H2:=AS hC;clear hC)))
  all_goals
   go_wp2_with fail
   go_meet
   have s1:=H1.out.size
   have s2:=H2.out.size
   simp only[gB,iB] at s1 s2
   have hbe:Below w.heap.size w w2:=by (repeat (with_reducible first | refine Lays.chain H2.out ?_ | refine Lays.chain H1.out ?_ | apply eA | apply iA | exact fA _ _))
   refine⟨w2.heap.size,rfl,⟨hp1,y1,U,0,[]⟩,_,WldK.mk0 (nA w2 _) (H1.out.1.keep (pB (fun _=>False) (w':=World.alloc _ _) (Below.trans H2.out.2 (Below.mono (eA (fA _ _) _) H2.out.size))) (fun x _ hF=>⟨hF,id⟩)) (H2.out.1.keep (pB (fun _=>False) (eA (fA _ _) _)) (fun x _ hF=>⟨hF,id⟩)) (fun h=>?_) (fun h=>?_) (fun x h1 h2=>?_),fun x hx h100=>?_,eA hbe _⟩
   ·have:=h.2;omega
   ·have:=h.2;omega
   ·have:=h1.2;have:=h2.1;omega
   ·by_cases e0:x=w2.heap.size
    ·omega
    ·simp only[if_neg e0] at h100
     by_cases e1:iv w.drew.heap.size w1.heap.size x
     ·exact e1.1
     ·simp only[if_neg e1] at h100
      by_cases e2:iv w1.heap.size w2.heap.size x
      ·have:=e2.1;omega
      ·simp only[if_neg e2] at h100
       omega
 case rest =>
  obtain⟨g0,rfl,R0⟩:=hcut
  have R0:=AS R0
  have e11:wc.cell? ⟨b,11,U⟩=M (J p.A p.ns.length p.cp):=by
   obtain⟨p',K',-,-,hb⟩:=R0.out
   exact(cw (kA HW.out.1 hb) 11)
  clear e0_ e1_ e2_ e3_ e4_ e5_ e6_ e7_ e8_ e9_ e10_ e11_ e12_
  go_wp2_with fail
  go_loopw [5,35] (fun v5 v35 wr=>∃ i:Nat,v35=V I i/\i≤p.ns.length/\Aside0 (∃ p' K',WldK c (⟨s.steps,s.ticks,s.nodes.take i,s.home,s.way⟩:S.World) g0 p' K' wr/\(∀ x,x < wr.heap.size->K' x < 100->w.heap.size≤x)/\Below w.heap.size w wr)) (fun _ v35 _=>65 - (intOf v35).toNat)
  case atStart=>exact⟨0,rfl,vB,R0⟩
  case round =>
   obtain⟨i,rfl,hi,R⟩:=hrel
   by_cases hc:i < p.ns.length
   ·have q0:(0:Int)≤(i:Int):=vB
    have q1:(i:Int) < (p.ns.length:Int):=vB
    obtain⟨p',K',r1,r2,r3⟩:=R.out
    obtain⟨gA,hgA,hgi⟩:=HW.out.ptr hc
    have hii:i < s.nodes.length:=vB
    have hpl:p'.ns.length=i:=by rw[r1.2.2.2.2.2.2.1];simp;omega
    have GA:=AS hgA
    have hgl:gA < w.heap.size:=World.block_lt_of_cell? w _ hgi
    have hgi':wr.cell? ⟨gA,i,U⟩=M (bA (M ⟨p.ns.getD i 0,0,U⟩)):=((bcell r3).1 gA i hgl).trans hgi
    have hg11:=cw r1.1 11 (v:=J p'.A p'.ns.length p'.cp)
    have hz11:=jA r1.1 11
    have hO:=r1.2.2.1
    have NDC:=AS (fun X hb=>ND.out i hc X hb)
    generalize hni:p.ns.getD i 0=ni at *
    generalize hA:p.A=PA at *
    subst hgA
    rw[hpl] at hg11
    obtain⟨ph,py,A',cp',ns'⟩:=p'
    simp only at hpl hg11
    subst hpl
    have RX:=AS (qA r1 (qA r2 r3))
    have OX:=AS hO
    have HII:=AS (qA hii (qA hni hA))
    have KEEP5:=AS (show ∀ x,Below wr.heap.size wr x->(x.cell? ⟨g0,11,U⟩=M (J A' ns'.length cp')/\x.cell? ⟨gA,ns'.length,U⟩=M (bA (M ⟨ni,0,U⟩))/\x.frozen? ⟨g0,11,U⟩=false) from fun x hx=>by
     have hb1:=kA RX.out.1.1 hx
     exact⟨cw hb1 11,((bcell (RX.out.2.2.trans (hx.mono RX.out.2.2.size))).1 gA _ hgl).trans hgi,jA hb1 11⟩)
    have GI:=AS hgi
    clear r1 r2 r3 hO hgi hii hni hA hgl hi
    go_upto_region 5 with fail
    have k11:wr.drew.cell? ⟨g0,11,U⟩=M (J A' ns'.length cp'):=hg11
    have hlg0:=eB RX.out.1.1
    go_region_law ((first | (go_simp;go_at_call 53;refine(NDC.out _ (RX.out.2.2.trans (Below.mono (B:=wr.heap.size) (by (repeat (with_reducible first | apply eA | apply iA | exact fA _ _))) RX.out.2.2.size))).mono ?_;rintro e w1 ⟨b1,rfl,hC⟩;have BR1:=AS (show Below wr.heap.size wr w1 from(iA (fA _ _)).trans hC.2);have H3:=AS (show NodeAt c (s.nodes.getD ns'.length (S.Node.new ns'.length)) b1 (fun x=>wr.heap.size≤x) w1 from hC.1.keep (qB (fun _=>False) _) (fun x _ hF=>⟨hF.1,id⟩));clear hC;have k12:w1.cell? ⟨g0,11,U⟩=M (J A' ns'.length cp'):=((bcell BR1.out).1 g0 11 hlg0).trans hg11;have k13:(w1.alloc (O #[bA (M ⟨b1,0,U⟩)] 94)).cell? ⟨g0,11,U⟩=M (J A' ns'.length cp'):=((bcell (eA BR1.out (O #[bA (M ⟨b1,0,U⟩)] 94))).1 g0 11 hlg0).trans hg11;have OA:=AS (show OwnE ptrE (J A' ns'.length cp') (ns'.map M) (w1.alloc (O #[bA (M ⟨b1,0,U⟩)] 94)) from OX.out.ks (pB (fun _=>False) (eA BR1.out _)) (fun _ _=>id));have RA:=AS (show RowE ptrE (w1.alloc (O #[bA (M ⟨b1,0,U⟩)] 94)) (M ⟨w1.heap.size,0,U⟩) [M b1] from rowE_one (E:=ptrE) (x:=M b1) (nA w1 (O #[bA (M ⟨b1,0,U⟩)] 94)))) | (refine step_appE (E:=ptrE) (xs:=ns'.map M) (ys:=[M b1]) xB _ _ rfl rfl rfl rfl (by exact OA.out) (by exact RA.out) (by show _ * 8≤_;simp;omega) ?_;intro v1 w3 hO hK hf;have hKS:=KS.keeps hK;have hk3:KS (fun x=>x∈foot (J A' ns'.length cp')) (w1.alloc (O #[bA (M ⟨b1,0,U⟩)] 94)) w3:=hKS;have hf4:∀ x∈foot (J A' ns'.length cp'),K' x=1:=RX.out.1.2.2.2.1;have hg0f:g0∉foot (J A' ns'.length cp'):=(fun e=>by have h1:=hf4 g0 e;have h2:=RX.out.1.2.1;omega);obtain⟨A3,n3,k3,rfl⟩:∃ A n c,v1=J A n c:=(by obtain⟨A,c,h,_⟩:=OwnE.row hO;exact⟨_,_,_,h⟩);have hn3:n3=ns'.length+1:=(by obtain⟨A,c,h,_⟩:=OwnE.row hO;injection h with h1 h2 h3;simpa using h2);subst hn3;have Y1:=AS (hk3.at_ (lA (kA RX.out.1.1 BR1.out) (O #[bA (M ⟨b1,0,U⟩)] 94)) hg0f);have y2:w3.frozen? ⟨g0,11,U⟩=false:=jA Y1.out 11;have y3:w3.cell? ⟨g0,11,U⟩=M (J A' ns'.length cp'):=cw Y1.out 11;have FI:=AS (WldK.push (A':=A3) (cp':=k3) (n:=s.nodes.getD ns'.length (S.Node.new ns'.length)) (G:=fun x=>wr.heap.size≤x) RX.out.1 (eA BR1.out (O #[bA (M ⟨b1,0,U⟩)] 94)) (H3.out.keep (pB (fun _=>False) (eA (fA _ _) _)) (fun x _ hF=>⟨hF,id⟩)) (fun x h=>h) (by show ns'.length < 64;omega) hO hk3 (fun x hx=>by rcases hf with e | e;exact .inl (by rw[e] at hx;exact hx);exact .inr (by rw[e] at hx;simp only[tA] at hx;omega)));have BR:=AS True.intro;clear hO hK hf hKS hk3 hf4 hg0f)))
    all_goals
     go_wp2
     go_roundw
     case rel =>
      obtain⟨x1,x2,x3⟩:=RX.out
      obtain⟨K2,m1,m2,m3⟩:=FI.out
      have hs3:=m3.size
      have hb3:=BR.out
      refine⟨ns'.length+1,by go_num,vB,⟨⟨(⟨ph,py,A3,k3,ns' ++ [b1]⟩:WPt),K2,?_,?_,?_⟩⟩⟩
      ·have e1:s.nodes.take (ns'.length+1)=s.nodes.take ns'.length ++ [s.nodes.getD ns'.length (S.Node.new ns'.length)]:=take_one _ HII.out.1
       rw[e1];exact m2
      ·intro x hx h100
       by_cases hl:x < wr.heap.size
       ·rw[m1 x hl] at h100;exact x2 x hl h100
       ·have:=x3.size;omega
      ·refine x3.trans (m3.toBelow (fun y hy=>?_) x3.size)
       by_cases hl:y < wr.heap.size
       ·exact x2 y hl (by have hy':K' y≤1:=hy;omega)
       ·have:=x3.size;omega
     case measure=>simp[intOf];omega
   ·have hin:i=p.ns.length:=vB
    subst hin
    go_wp2
    go_ret
    obtain⟨p',K',r1,r2,r3⟩:=R.out
    refine⟨g0,rfl,⟨p',K',?_,r2⟩,r3⟩
    have e1:s.nodes.take p.ns.length=s.nodes:=by rw[hnl];simp
    rw[e1] at r1
    exact r1
structure WB (c:Cfg) (s:S.World):Prop where
 chk:c.check=0
 len:s.nodes.length=c.nodes.toNat
 node:∀ n∈s.nodes,∃ m:Int,0≤m/\m < 4611686018427387904/\NOk c n m
 arb:∃ m:Int,0≤m/\m≤1000000/\AOk c s.home.queue m
 qn:s.home.queue.nodes=c.nodes
 rl:s.home.queue.rows.length=c.blocks.toNat
 dst:Dst c s.way
theorem WOk.bounds {c:Cfg} {s s':S.World} (hc:c.check=0) (h:WOk c s) (hst:s.steps≤1000000) (hn:s'.nodes=s.nodes) (hh:s'.home=s.home) (hw:s'.way=s.way):WB c s':=by
 have h0:=h.t.st
 exact⟨hc,by rw[hn];exact h.t.len,fun n hx=>⟨65536 * s.steps,vB,vB,h.node n (hn ▸ hx)⟩,⟨s.steps,h0,hst,by rw[hh];exact h.arb⟩,by rw[hh];exact h.t.qn,by rw[hh];exact h.t.rl,by rw[hw];exact h.dst⟩
theorem WB.queue {c:Cfg} {s:S.World} (h:WB c s):∀ r∈s.home.queue.rows,r.queue.length≤1000000:=fun r hr=>by
 obtain⟨m,h0,h1,h2⟩:=h.arb
 have:=(h2 r hr).len
 omega
theorem WB.rows {c:Cfg} {s:S.World} (h:WB c s):s.home.queue.rows≠[]:=fun e=>by
 have:=h.rl
 rw[e] at this
 obtain⟨-,-,-,-,-,-,-,-,-,-,-,-,hn1,hn2,hb1,hb2,ht1,ht2⟩:=check_ok h.chk
 simp at this;omega
def Boxes (b:Nat) (e:Ent) (gw ge:Nat) (K:Nat->Nat) (w:cA):Prop:=w.heap[gw]?=M (O #[bA (M ⟨b,0,U⟩)] 27 (0,0))/\w.heap[ge]?=M (O #[V I e.kind,V I e.a,V I e.b,V I e.c,V I e.d] 33 (0,0))/\K gw=200/\K ge=200
def ActW (r:Bool×S.World×List Let×List S.Done) (c:Cfg) (b:Nat) (p:WPt) (q:Nat) (K:Nat->Nat) (w:cA) (e:Ending) (w':cA):Prop:=WP (aA r.1) c r.2.1 b p r.2.2.1 r.2.2.2 q K w e w'
theorem actIssue_any {c:Cfg} {s:S.World} {b q gw ge:Nat} {p:WPt} {K:Nat->Nat} {w:cA} (hs:WB c s) (hW:WA c s b p [] [] q K w) (e:Ent) (hB:Boxes b e gw ge K w) (hk:e.kind=1) (hl:e.legal c=true):bB dA 27 #[bA (M ⟨gw,0,U⟩),bA (M ⟨ge,0,U⟩),bA (M ⟨q,0,U⟩)] w (ActW (s.acts c e) c b p q K w):=by
 have f9:=cw hB.1 0 (v:=bA (M ⟨b,0,U⟩))
 have f0:=cw hB.2.1 0 (v:=V I e.kind)
 have f1:=cw hB.2.1 1 (v:=V I e.a)
 have f2:=cw hB.2.1 2 (v:=V I e.b)
 have f3:=cw hB.2.1 3 (v:=V I e.c)
 have f4:=cw hB.2.1 4 (v:=V I e.d)
 have hc0:0≤c.nodes:=by obtain⟨-,-,-,-,-,-,-,-,-,-,-,-,hn1,-⟩:=check_ok hs.chk;omega
 have hi:0≤e.a/\e.a < c.nodes:=by
  unfold Ent.legal at hl
  rw[if_pos hk] at hl
  simp only[Bool.and_eq_true,decide_eq_true_eq] at hl
  omega
 have hnl:=hW.1.2.2.2.2.2.2.1
 have hsl:=hs.len
 have hai:((e.a.toNat:Nat):Int)=e.a:=vB
 have hin:e.a.toNat < p.ns.length:=vB
 have hnd:s.node e.a=s.nodes.getD e.a.toNat (S.Node.new (e.a.toNat:Nat)):=by unfold S.World.node;rw[hai]
 have hop:Ent.op ⟨e.kind,(e.a.toNat:Nat),e.b,e.c,e.d⟩=e.op:=rfl
 have hbd:((s.node e.a).issue c e.op ⟨0,0,0⟩).2.1.letters.length≤1000/\((s.node e.a).issue c e.op ⟨0,0,0⟩).2.1.done.length≤1000:=by
  obtain⟨m,m0,m1,hm⟩:=hs.node _ (getD_mem (S.Node.new (e.a.toNat:Nat)) (show e.a.toNat < s.nodes.length by omega))
  rw[<- hnd] at hm
  have:=(issue_ok hc0 hm e.op ⟨0,0,0⟩).2
  exact⟨lB this.len vB,lB this.don vB⟩
 have IS:=AS (worldIssue_aux hW e.kind e.b e.c e.d e.a.toNat hin (s.node e.a) hnd (by rw[hop];exact hbd))
 rw[hop,hai] at IS
 have hact:s.acts c e=(((s.node e.a).issue c e.op ⟨0,0,0⟩).2.2,{ s with nodes:=s.nodes.set e.a.toNat ((s.node e.a).issue c e.op ⟨0,0,0⟩).1 },((s.node e.a).issue c e.op ⟨0,0,0⟩).2.1.letters,((s.node e.a).issue c e.op ⟨0,0,0⟩).2.1.done):=by unfold S.World.acts;rw[if_pos hk]
 rw[hact]
 generalize (s.node e.a).issue c e.op ⟨0,0,0⟩=R at IS
 clear hact hbd hop hnd hin hai hnl hsl hi hl hk hs hc0
 clear hW hB
 obtain⟨k_,a_,b_,c_,d_⟩:=e
 simp only at *
 go_enter Tryz.func27,Tryz.ntmps27
 go_wp2_with fail
 refine IS.out.mono ?_
 rintro e w1 h1
 have he:=h1.1
 subst he
 have X:=AS h1
 clear h1
 go_wp2
 go_ret
 exact X.out
theorem actTick_any {c:Cfg} {s:S.World} {b q gw ge:Nat} {p:WPt} {K:Nat->Nat} {w:cA} (hs:WB c s) (hW:WA c s b p [] [] q K w) (e:Ent) (hB:Boxes b e gw ge K w) (h1:e.kind≠1) (h2:e.kind≠2) (h3:e.kind≠3):bB dA 33 #[bA (M ⟨gw,0,U⟩),bA (M ⟨ge,0,U⟩),bA (M ⟨q,0,U⟩)] w (ActW (s.acts c e) c b p q K w):=by
 have f9:=cw hB.1 0 (v:=bA (M ⟨b,0,U⟩))
 have f0:=cw hB.2.1 0 (v:=V I e.kind)
 have f1:=cw hB.2.1 1 (v:=V I e.a)
 have f2:=cw hB.2.1 2 (v:=V I e.b)
 have f3:=cw hB.2.1 3 (v:=V I e.c)
 have f4:=cw hB.2.1 4 (v:=V I e.d)
 obtain⟨-,-,-,-,-,-,hw1,hw2,-,-,-,-,hn1,-⟩:=check_ok hs.chk
 have IS:=AS (worldTick_any hW vB vB e.kind e.a e.b e.c e.d (fun n hn=>by
  obtain⟨m,m0,m1,hm⟩:=hs.node n hn
  have:=(tick_ok vB hm ⟨e.b,e.c,e.d⟩).2
  exact⟨lB this.len vB,lB this.don vB⟩))
 have hact:s.acts c e=(true,{ s with ticks:=wrap64 (s.ticks+1),nodes:=(s.nodes.map fun(n:S.Node)=>n.tick c ⟨e.b,e.c,e.d⟩).map (·.1)},(s.nodes.map fun(n:S.Node)=>n.tick c ⟨e.b,e.c,e.d⟩).flatMap (·.2.letters),(s.nodes.map fun(n:S.Node)=>n.tick c ⟨e.b,e.c,e.d⟩).flatMap (·.2.done)):=by unfold S.World.acts;rw[if_neg h1,if_neg h2,if_neg h3]
 rw[hact,List.map_map]
 clear hact h1 h2 h3 hw1 hw2 hn1 hs
 clear hW hB
 obtain⟨k_,a_,b_,c_,d_⟩:=e
 simp only at *
 go_enter Tryz.func33,Tryz.ntmps33
 go_wp2_with fail
 refine IS.out.mono ?_
 rintro e w1 h1
 have he:=h1.1
 subst he
 have X:=AS h1
 clear h1
 go_wp2
 go_ret
 exact X.out
theorem actDeliver_any {c:Cfg} {s:S.World} {b q gw ge:Nat} {p:WPt} {K:Nat->Nat} {w:cA} (hs:WB c s) (hW:WA c s b p [] [] q K w) (e:Ent) (hB:Boxes b e gw ge K w) (hk:e.kind=2):bB dA 29 #[bA (M ⟨gw,0,U⟩),bA (M ⟨ge,0,U⟩),bA (M ⟨q,0,U⟩)] w (ActW (s.acts c e) c b p q K w):=by
 have f9:=cw hB.1 0 (v:=bA (M ⟨b,0,U⟩))
 have f0:=cw hB.2.1 0 (v:=V I e.kind)
 have f1:=cw hB.2.1 1 (v:=V I e.a)
 have f2:=cw hB.2.1 2 (v:=V I e.b)
 have f3:=cw hB.2.1 3 (v:=V I e.c)
 have f4:=cw hB.2.1 4 (v:=V I e.d)
 obtain⟨-,-,-,-,-,-,-,-,-,-,-,-,hn1,-⟩:=check_ok hs.chk
 have hnl:=hW.1.2.2.2.2.2.2.1
 have hsl:=hs.len
 have IS:=AS (show bB dA 30 #[bA (M ⟨b,0,U⟩),.agg #[V I e.kind,V I e.a,V I e.b,V I e.c,V I e.d],bA (M ⟨q,0,U⟩)] w (ActW (s.acts c e) c b p q K w) from by
  obtain⟨lk,lf,lt,lb,lq,lw,lwr,lc,lo,lh,ld,hg⟩:∃ lk lf lt lb lq lw lwr lc lo lh ld,netGot s.way e.a=⟨lk,lf,lt,lb,lq,lw,lwr,⟨lc,lo,lh,ld⟩⟩:=⟨_,_,_,_,_,_,_,_,_,_,_,rfl⟩
  have hd:netHas s.way e.a=true->0≤lt/\lt≤c.nodes:=fun h=>by
   have hm:(netGot s.way e.a)∈s.way:=by
    unfold netGot;rw[if_pos h]
    unfold netHas at h
    simp only[Bool.and_eq_true,decide_eq_true_eq] at h
    exact getD_mem let0 vB
   have:=hs.dst _ hm
   rw[hg] at this;exact this
  have hacts:s.acts c e=(netHas s.way e.a,if netHas s.way e.a then (if lt=c.nodes then ({ s with way:=netLeft s.way e.a,home:=(s.home.take c ⟨lk,lf,lt,lb,lq,lw,lwr,⟨lc,lo,lh,ld⟩⟩ ⟨e.b,e.c,e.d⟩).1 },(s.home.take c ⟨lk,lf,lt,lb,lq,lw,lwr,⟨lc,lo,lh,ld⟩⟩ ⟨e.b,e.c,e.d⟩).2,[]) else ({ s with way:=netLeft s.way e.a,nodes:=s.nodes.set lt.toNat ((s.nodes.getD lt.toNat (S.Node.new lt.toNat)).take c ⟨lk,lf,lt,lb,lq,lw,lwr,⟨lc,lo,lh,ld⟩⟩ ⟨e.b,e.c,e.d⟩).1 },((s.nodes.getD lt.toNat (S.Node.new lt.toNat)).take c ⟨lk,lf,lt,lb,lq,lw,lwr,⟨lc,lo,lh,ld⟩⟩ ⟨e.b,e.c,e.d⟩).2.letters,((s.nodes.getD lt.toNat (S.Node.new lt.toNat)).take c ⟨lk,lf,lt,lb,lq,lw,lwr,⟨lc,lo,lh,ld⟩⟩ ⟨e.b,e.c,e.d⟩).2.done)) else ({ s with way:=netLeft s.way e.a },[],[])):=by
   unfold S.World.acts
   rw[if_neg vB,if_pos hk]
   by_cases h:0≤e.a/\e.a < s.way.length
   ·have hh:netHas s.way e.a=true:=by unfold netHas;simp;omega
    have hgd:s.way.getD e.a.toNat let0=⟨lk,lf,lt,lb,lq,lw,lwr,⟨lc,lo,lh,ld⟩⟩:=by rw[<- hg];unfold netGot;rw[if_pos hh]
    have hgl:netLeft s.way e.a=s.way.eraseIdx e.a.toNat:=by unfold netLeft;rw[if_pos hh]
    have ht:=hd hh
    rw[dif_pos h,if_pos hh,hh,hgl]
    simp only[hgd]
    by_cases q:lt=c.nodes
    ·rw[if_pos q,if_pos q]
    ·rw[if_neg q,if_neg q]
     have e1:s.node lt=s.nodes.getD lt.toNat (S.Node.new lt.toNat):=by unfold S.World.node;rw[show((lt.toNat:Nat):Int)=lt by omega]
     rw[e1]
   ·have hh:netHas s.way e.a=false:=by unfold netHas;simp;omega
    have hgl:netLeft s.way e.a=s.way:=by unfold netLeft;rw[hh];rfl
    rw[dif_neg h,hh,hgl]
    rfl
  rw[hacts]
  refine worldDeliver_aux hW e.kind e.a e.b e.c e.d (netHas s.way e.a) lk lf lt lb lq lw lwr lc lo lh ld rfl hg hs.queue (fun h=>?_) _ rfl ?_
  ·have ht:=hd h
   by_cases q:lt=c.nodes
   ·exact .inl q
   ·exact .inr ⟨lt.toNat,vB,vB,q⟩
  ·by_cases h:netHas s.way e.a=true
   ·have ht:=hd h
    rw[if_pos h]
    by_cases q:lt=c.nodes
    ·rw[if_pos q]
     obtain⟨m,m0,m1,hm⟩:=hs.arb
     have:=(htake_ok (c:=c) vB hm m0 hs.qn ⟨lk,lf,lt,lb,lq,lw,lwr,⟨lc,lo,lh,ld⟩⟩ ⟨e.b,e.c,e.d⟩).2.2
     exact⟨lB this vB,zB⟩
    ·rw[if_neg q]
     obtain⟨m,m0,m1,hm⟩:=hs.node _ (getD_mem (S.Node.new lt.toNat) (show lt.toNat < s.nodes.length by omega))
     have:=(ntake_ok hs.chk hm m0 m1 ⟨lk,lf,lt,lb,lq,lw,lwr,⟨lc,lo,lh,ld⟩⟩ ⟨e.b,e.c,e.d⟩).2
     exact⟨lB this.len vB,lB this.don vB⟩
   ·rw[if_neg h];exact⟨zB,zB⟩)
 generalize s.acts c e=R at IS ⊢
 clear hk hs hnl hsl hn1
 clear hW hB
 obtain⟨k_,a_,b_,c_,d_⟩:=e
 simp only at *
 go_enter Tryz.func29,Tryz.ntmps29
 go_wp2_with fail
 refine IS.out.mono ?_
 rintro e w1 h1
 have he:=h1.1
 subst he
 have X:=AS h1
 clear h1
 go_wp2
 go_ret
 exact X.out
theorem actDrop_any {c:Cfg} {s:S.World} {b q gw ge:Nat} {p:WPt} {K:Nat->Nat} {w:cA} (hs:WB c s) (hW:WA c s b p [] [] q K w) (e:Ent) (hB:Boxes b e gw ge K w) (hk:e.kind=3):bB dA 31 #[bA (M ⟨gw,0,U⟩),bA (M ⟨ge,0,U⟩)] w (ActW (s.acts c e) c b p q K w):=by
 have f9:=cw hB.1 0 (v:=bA (M ⟨b,0,U⟩))
 have f0:=cw hB.2.1 0 (v:=V I e.kind)
 have f1:=cw hB.2.1 1 (v:=V I e.a)
 have f2:=cw hB.2.1 2 (v:=V I e.b)
 have f3:=cw hB.2.1 3 (v:=V I e.c)
 have f4:=cw hB.2.1 4 (v:=V I e.d)
 have NT:=AS (show ∀ X,Below w.heap.size w X->bB dA 32 _ X _ from fun X h=>netDrop_any e.a (hW.1.2.2.2.2.2.1.keep (F':=fun x=>x < w.heap.size/\K x=3) (pB (fun _=>False) h) (fun x hx hF=>⟨⟨hx,hF⟩,id⟩)))
 have hact:s.acts c e=(netLoses s.way e.a,{ s with way:=netLost s.way e.a },[],[]):=by
  unfold S.World.acts
  rw[if_neg vB,if_neg vB,if_pos hk]
  by_cases h:0≤e.a/\e.a < s.way.length/\(s.way.getD e.a.toNat let0).kind=2
  ·have hh:netLoses s.way e.a=true:=by unfold netLoses netHas;simp;simp at h;omega
   rw[if_pos h,hh]
   unfold netLost;rw[if_pos hh]
  ·have hh:netLoses s.way e.a=false:=by
    cases q:netLoses s.way e.a with
    | false=>rfl
    | true =>
     unfold netLoses netHas at q
     simp only[Bool.and_eq_true,decide_eq_true_eq,beq_iff_eq] at q
     exact absurd ⟨q.1.1,q.1.2,q.2⟩ h
   rw[if_neg h,hh]
   unfold netLost;rw[hh];rfl
 rw[hact]
 have HW:=AS hW
 have HB:=AS hB
 have HK0:=AS hW.1.2.1
 have h13:w.cell? ⟨b,13,U⟩=M (bA (M ⟨p.y,0,U⟩)):=hW.1.cells.2.2.2.2.2.2.2.2.2.2.2.2.2
 have KEEP:=AS (show ∀ x,KS (fun y=>y < w.heap.size/\K y=3) w x->(x.cell? ⟨b,13,U⟩=M (bA (M ⟨p.y,0,U⟩))/\x.cell? ⟨gw,0,U⟩=M (bA (M ⟨b,0,U⟩))/\x.cell? ⟨ge,1,U⟩=M (V I e.a)) from fun x hx=>by
  have hb1:=hx.at_ HW.out.1.1 (fun h=>by have h2:=h.2;rw[HK0.out] at h2;omega)
  have hb2:=hx.at_ HB.out.1 (fun h=>by have h2:=h.2;rw[HB.out.2.2.1] at h2;omega)
  have hb3:=hx.at_ HB.out.2.1 (fun h=>by have h2:=h.2;rw[HB.out.2.2.2] at h2;omega)
  exact⟨cw hb1 13,cw hb2 0,cw hb3 1⟩)
 generalize netLoses s.way e.a=lz at *
 clear hact hk hs hW hB f0 f2 f3 f4
 obtain⟨k_,a_,b_,c_,d_⟩:=e
 simp only at *
 go_enter Tryz.func31,Tryz.ntmps31
 go_upto_region 1 with fail
 go_region_held3 (fun x=>x.cell? ⟨b,13,U⟩=M (bA (M ⟨p.y,0,U⟩))/\x.cell? ⟨gw,0,U⟩=M (bA (M ⟨b,0,U⟩))/\x.cell? ⟨ge,1,U⟩=M (V I a_)) ((refine KEEP.out _ ?_;(repeat (with_reducible first | exact H1.out | apply sB | exact qB _ _)))) ((first | (go_at_call 32;refine(NT.out _ (iA (fA _ _))).mono ?_;rintro e w1 ⟨rfl,hN,hk⟩;have H1:=AS (show KS (fun y=>y < w.heap.size/\K y=3) w w1 from hk);have F1:=AS (show NetAt c.cap (netLost s.way a_) p.y (gr (fun x=>x < w.heap.size/\K x=3) w.drew) w1 from hN);clear hN hk) | fail))
 all_goals
  go_wp2
  go_ret
  obtain⟨K2,k1,-,k3,k4⟩:=HW.out.netted (X:=w.drew) (iA (fA _ _)) F1.out H1.out
  exact⟨rfl,K2,k1,k3,k4⟩
end Go.Proofs.YtiebppkhaiofeaaGreat.K
