/- Part of the proof of TopStarver: what functions of the program do. -/
import Derived.Test.YtiebppkhaiofeaaGreatS50
import Derived.Test.YtiebppkhaiofeaaGreatS30
set_option maxHeartbeats 4000000
set_option maxRecDepth 100000
set_option linter.unusedVariables false
set_option linter.unusedSimpArgs false
namespace Go.Proofs.YtiebppkhaiofeaaGreat.K
open Go.RowKit Go.Proofs.YtiebppkhaiofeaaGreatW.PrintWords Go.Proofs.YtiebppkhaiofeaaGreat.S
attribute [local go_sem] World.cell?_alloc_some
open Go.ChangeMaps Go.MapKept
structure ShotS (s:S.World) (Ap:Option Addr) (cp:Nat) (ps:List PlaceR) (w:Go.World):Prop where
 pls:OwnE placeE (.slice Ap ps.length cp) ps w
 len:ps.length=s.nodes.length
 nod:∀ i:Nat,i < ps.length->(ps.getD i placeE.d).busy=(s.nodes.getD i (S.Node.new i)).cpu.busy/\(ps.getD i placeE.d).op=(s.nodes.getD i (S.Node.new i)).cpu.op
 lns:∀ i:Nat,i < ps.length->∃ (A:Option Addr) (c:Nat) (X:List Int),(ps.getD i placeE.d).lines=.slice A X.length c/\OwnE lineE (.slice A X.length c) (X.map fun x=>⟨x,(s.nodes.getD i (S.Node.new i)).lines.tok x⟩) w/\∀ b,(s.nodes.getD i (S.Node.new i)).lines.tok b≠b0->b∈X
 acs:∀ i:Nat,i < ps.length->∃ (A:Option Addr) (c:Nat) (L:List Int),(ps.getD i placeE.d).acts=.slice A L.length c/\OwnE actE (.slice A L.length c) (L.map (Table.actOf (s.nodes.getD i (S.Node.new i)).know)) w/\∀ k,k∈L↔((s.nodes.getD i (S.Node.new i)).know.act k).isSome=true
theorem ShotS.of {c:Cfg} {s:S.World} (hs:WOk c s) {Ap Ah Af:Option Addr} {np cp nh ch nf cf:Nat} {ps:List PlaceR} {B:Nat} {w:Go.World} (h:ShotV s Ap Ah Af np cp nh ch nf cf ps B w):np=ps.length/\nf=s.way.length/\ShotS s Ap cp ps w:=by
 obtain⟨h1,h2,h3,h4,h5,h6,h7,h8⟩:=h
 subst h2 h8
 refine⟨rfl,rfl,h1,h3,fun i hi=>⟨(h4.ok i hi).1,(h4.ok i hi).2.1⟩,fun i hi=>?_,fun i hi=>?_⟩
 ·obtain⟨⟨ks,-,hk,ho⟩,-⟩:=(h4.ok i hi).2.2.1
  obtain⟨A,c',e,-⟩:=ho.row
  rw[List.length_map] at e
  refine⟨A,c',_,e,e ▸ ho,fun b hb=>?_⟩
  have hin:=(hs.node _ (getD_mem (S.Node.new i) (by rw[<- h3];exact hi))).cac.line b hb
  rw[List.mem_mergeSort]
  refine List.mem_flatMap.2 ⟨_,hk _ (fun e=>?_),hin⟩
  have hin':b∈(s.nodes.getD i (S.Node.new i)).lines.rows (imod b c.sets):=hin
  rw[e] at hin'
  cases hin'
 ·obtain⟨⟨L,-,hL,ho⟩,-⟩:=(h4.ok i hi).2.2.2
  obtain⟨A,c',e,-⟩:=ho.row
  rw[List.length_map] at e
  exact⟨A,c',L,e,e ▸ ho,hL⟩
theorem ShotS.ks {s:S.World} {Ap:Option Addr} {cp:Nat} {ps:List PlaceR} {G:Set_} {w w':Go.World} (h:ShotS s Ap cp ps w) (hk:KS G w w') (hG:∀ x,G x->∃ arr,w.heap[x]?=some (.cells arr 3 (0,0))):ShotS s Ap cp ps w':=by
 refine⟨h.pls.ks hk fun x hx g=>?_,h.len,h.nod,fun i hi=>?_,fun i hi=>?_⟩
 ·obtain⟨arr,e⟩:=hG x g;exact own_apart_blk h.pls e (by decide) hx
 ·obtain⟨A,c,X,e,ho,hl⟩:=h.lns i hi
  exact⟨A,c,X,e,ho.ks hk (fun x hx g=>by obtain⟨arr,e⟩:=hG x g;exact own_apart_blk ho e (by decide) hx),hl⟩
 ·obtain⟨A,c,L,e,ho,hl⟩:=h.acs i hi
  exact⟨A,c,L,e,ho.ks hk (fun x hx g=>by obtain⟨arr,e⟩:=hG x g;exact own_apart_blk ho e (by decide) hx),hl⟩
theorem own_seti {hv:List Int} {W:Go.World} {g cap i:Nat} (h:OwnE intE (.slice (some ⟨g,0,none⟩) hv.length cap) hv W) (hi:i < hv.length) (x:Int):OwnE intE (.slice (some ⟨g,0,none⟩) (hv.set i x).length cap) (hv.set i x) (W.setCell ⟨g,i,none⟩ (.int .i64 x)):=by
 have:=h.cell1 (i:=i) (j:=0) hi (by decide) x (.int .i64 x) rfl
 have e:i * intE.k+0=i:=by show i * 1+0=i;omega
 rw[e] at this
 rw[List.length_set]
 exact this
theorem own_geti {hv:List Int} {W:Go.World} {g cap i:Nat} (h:OwnE intE (.slice (some ⟨g,0,none⟩) hv.length cap) hv W) (hi:i < hv.length):W.cell? ⟨g,i,none⟩=some (.int .i64 (hv.getD i 0))/\W.frozen? ⟨g,i,none⟩=false:=by
 obtain⟨g',cap',e,-,-,-,hc⟩:=own_some h hi
 simp at e
 obtain⟨rfl,rfl⟩:=e
 have h0:=hc 0 (by decide)
 have e:i * intE.k+0=i:=by show i * 1+0=i;omega
 rw[e] at h0
 refine⟨h0.trans rfl,?_⟩
 rcases h.cases with ⟨e,-⟩ | ⟨g',cap',cur,e,hg,-⟩
 ·simp at e
 ·simp at e
  obtain⟨rfl,rfl⟩:=e
  exact blk_frozen hg i
theorem own_blk3 {hv:List Int} {W:Go.World} {g n cap:Nat} (h:OwnE intE (.slice (some ⟨g,0,none⟩) n cap) hv W):∃ arr,W.heap[g]?=some (.cells arr 3 (0,0)):=by
 rcases h.cases with ⟨e,-⟩ | ⟨g',cap',cur,e,hg,-⟩
 ·simp at e
 ·simp at e
  exact⟨cur,by rw[e.1];exact hg⟩
def ownB (n:S.Node) (i:Int) (L:List Int):Bool:=L.any fun k=>n.cpu.busy && ((Table.actOf n.know k).block == n.cpu.op.block) && ((Table.actOf n.know k).node == i)
theorem ownB_snoc (n:S.Node) (i:Int) (L:List Int) {d:Nat} (h:d < L.length):ownB n i (L.take (d+1))=(ownB n i (L.take d) || (n.cpu.busy && ((Table.actOf n.know (L[d]'h)).block == n.cpu.op.block) && ((Table.actOf n.know (L[d]'h)).node == i))):=by
 unfold ownB
 rw[List.take_add_one,List.getElem?_eq_getElem h,List.any_append]
 simp
theorem ownB_all {n:S.Node} {i:Int} {L:List Int} (hi:n.id=i) (hL:∀ k,k∈L↔(n.know.act k).isSome=true) (hb:∀ b a,n.know.act b=some a->a.block=b):ownB n i L=n.starves:=by
 rw[Bool.eq_iff_iff]
 unfold ownB S.Node.starves S.Node.own
 simp only[List.any_eq_true,Bool.and_eq_true,beq_iff_eq]
 constructor
 ·rintro⟨k,hk,⟨h1,h2⟩,h3⟩
  obtain⟨a,ha⟩:=Option.isSome_iff_exists.1 ((hL k).1 hk)
  have e:Table.actOf n.know k=a:=by unfold Table.actOf;rw[ha];rfl
  rw[e] at h2 h3
  have hab:=hb k a ha
  refine⟨h1,?_⟩
  rw[<- h2,hab,ha]
  simp only
  rw[if_pos (by rw[h3,hi])]
  rfl
 ·rintro⟨h1,h2⟩
  cases ha:n.know.act n.cpu.op.block with
  | none=>rw[ha] at h2;cases h2
  | some a =>
   rw[ha] at h2
   simp only at h2
   have hn:a.node=n.id:=Classical.byContradiction fun q=>by rw[if_neg q] at h2;cases h2
   have e:Table.actOf n.know n.cpu.op.block=a:=by unfold Table.actOf;rw[ha];rfl
   exact⟨_,(hL _).2 (by rw[ha];rfl),⟨h1,by rw[e];exact hb _ a ha⟩,by rw[e,hn,hi]⟩
def cntB (own:Bool) (b:Int) (tok:Int->Bun) (X:List Int):Int:=X.foldl (fun acc x=>if own && (x == b) then (tok x).count else acc) 0
theorem cntB_snoc (own:Bool) (b:Int) (tok:Int->Bun) (X:List Int) {d:Nat} (h:d < X.length):cntB own b tok (X.take (d+1))=if own && ((X[d]'h) == b) then (tok (X[d]'h)).count else cntB own b tok (X.take d):=by
 unfold cntB
 rw[List.take_add_one,List.getElem?_eq_getElem h,List.foldl_append]
 rfl
theorem cntB_fold (b:Int) (tok:Int->Bun):∀ (X:List Int) (acc:Int),X.foldl (fun acc x=>if true && (x == b) then (tok x).count else acc) acc=if b∈X then (tok b).count else acc
 | [],acc=>by simp
 | x :: X,acc=>by
  rw[List.foldl_cons,cntB_fold b tok X]
  by_cases h:b∈X
  ·rw[if_pos h,if_pos (List.mem_cons_of_mem _ h)]
  ·rw[if_neg h]
   by_cases e:x=b
   ·subst e;simp
   ·have:¬ b=x:=fun q=>e q.symm
    simp[e,h,this]
theorem cntB_all {n:S.Node} {X:List Int} (hX:∀ b,n.lines.tok b≠b0->b∈X):cntB n.starves n.cpu.op.block n.lines.tok X=hadF n:=by
 unfold hadF S.Node.cnt
 cases hs:n.starves
 ·unfold cntB
  simp only[Bool.false_and,Bool.false_eq_true,if_false]
  clear hX hs
  induction X with
  | nil=>rfl
  | cons x X ih=>exact ih
 ·unfold cntB
  rw[cntB_fold]
  simp only[if_true]
  by_cases h:n.cpu.op.block∈X
  ·rw[if_pos h]
  ·rw[if_neg h]
   have:n.lines.tok n.cpu.op.block=b0:=Classical.byContradiction fun q=>h (hX _ q)
   rw[this];rfl
theorem starver_any (c:Cfg) (l:List Ent) {A:Option Addr} {lc:Nat} {w:Go.World} (hR:RowE entE w A l):Calls Tryz.prog 4 #[cfgV c,.slice A l.length lc] w (RV (.bool true) w):=by
 have RR:=AS hR
 have NW:=AS (fun X (hc:c.check=0)=>worldNew_any c hc X)
 have X0:=AS (blk_new w (.cells #[.int .i64 c.nodes,.int .i64 c.blocks,.int .i64 c.tokens,.int .i64 c.sets,.int .i64 c.ways,.int .i64 c.cap,.int .i64 c.wait,.int .i64 c.tries,.int .i64 c.policy] 23))
 have B0:=AS (below_alloc (Below.refl w.heap.size w) (.cells #[.int .i64 c.nodes,.int .i64 c.blocks,.int .i64 c.tokens,.int .i64 c.sets,.int .i64 c.ways,.int .i64 c.cap,.int .i64 c.wait,.int .i64 c.tries,.int .i64 c.policy] 23))
 have SZ:=AS (show(w.alloc (.cells #[.int .i64 c.nodes,.int .i64 c.blocks,.int .i64 c.tokens,.int .i64 c.sets,.int .i64 c.ways,.int .i64 c.cap,.int .i64 c.wait,.int .i64 c.tries,.int .i64 c.policy] 23)).heap.size=w.heap.size+1 from by rw[World.size_alloc])
 have PL:=AS (fun X=>played_any c A l.length lc X)
 clear hR
 simp only[cfgV] at NW PL ⊢
 go_enter Tryz.func4,Tryz.ntmps4
 go_upto_region 1 with fail
 generalize w.alloc (.cells #[.int .i64 c.nodes,.int .i64 c.blocks,.int .i64 c.tokens,.int .i64 c.sets,.int .i64 c.ways,.int .i64 c.cap,.int .i64 c.wait,.int .i64 c.tries,.int .i64 c.policy] 23)=W at X0 B0 SZ ⊢
 go_wp2_with fail
 refine(live_any W).mono ?_
 rintro e w1 ⟨rfl,hb1⟩
 have X1:=AS (blk_below X0.out hb1)
 have B1:=AS (B0.out.trans (hb1.mono B0.out.size))
 clear hb1
 have e0:=cw X1.out 0 (v:=.int .i64 c.nodes)
 have e1:=cw X1.out 1 (v:=.int .i64 c.blocks)
 have e2:=cw X1.out 2 (v:=.int .i64 c.tokens)
 have e3:=cw X1.out 3 (v:=.int .i64 c.sets)
 have e4:=cw X1.out 4 (v:=.int .i64 c.ways)
 have e5:=cw X1.out 5 (v:=.int .i64 c.cap)
 have e6:=cw X1.out 6 (v:=.int .i64 c.wait)
 have e7:=cw X1.out 7 (v:=.int .i64 c.tries)
 have e8:=cw X1.out 8 (v:=.int .i64 c.policy)
 go_wp2_with fail
 refine(PL.out w1).mono ?_
 rintro e w2 ⟨rfl,hb2⟩
 have X2:=AS (blk_below X1.out hb2)
 have B2:=AS (B1.out.trans (hb2.mono B1.out.size))
 clear hb2 e0 e1 e2 e3 e4 e5 e6 e7 e8
 obtain⟨pv,hpv⟩:∃ pv,played c l.length=pv:=⟨_,rfl⟩
 rw[hpv]
 cases pv with
 | false =>
  clear hpv
  go_wp2_with fail
  refine(live_any w2).mono ?_
  rintro e w3 ⟨rfl,hb3⟩
  have B3:=AS (B2.out.trans (hb3.mono B2.out.size))
  clear hb3
  go_wp2
  go_ret
  exact⟨rfl,B3.out⟩
 | true =>
  obtain⟨hc,hl⟩:=played_ok hpv
  have HC:=AS hc
  have HL:=AS hl
  have OK:=AS (fun i (hi:i≤l.length)=>runL_ok hc l (by omega) i hi)
  clear hpv hc hl
  have e0:=cw X2.out 0 (v:=.int .i64 c.nodes)
  have e1:=cw X2.out 1 (v:=.int .i64 c.blocks)
  have e2:=cw X2.out 2 (v:=.int .i64 c.tokens)
  have e3:=cw X2.out 3 (v:=.int .i64 c.sets)
  have e4:=cw X2.out 4 (v:=.int .i64 c.ways)
  have e5:=cw X2.out 5 (v:=.int .i64 c.cap)
  have e6:=cw X2.out 6 (v:=.int .i64 c.wait)
  have e7:=cw X2.out 7 (v:=.int .i64 c.tries)
  have e8:=cw X2.out 8 (v:=.int .i64 c.policy)
  go_wp2_with fail
  refine(NW.out w2 HC.out).mono ?_
  rintro e w3 ⟨b,rfl,hW3,hb3⟩
  obtain⟨nn,hnn⟩:∃ nn:Nat,c.nodes=nn:=⟨c.nodes.toNat,by obtain⟨-,-,-,-,-,-,-,-,-,-,-,-,hn1,-⟩:=check_ok HC.out;omega⟩
  have HNN:=AS hnn
  have HN64:=AS (show 1≤nn/\nn≤64 from by obtain⟨-,-,-,-,-,-,-,-,-,-,-,-,hn1,hn2,-⟩:=check_ok HC.out;omega)
  clear hnn
  have T3:=AS (show TopI c (S.World.new c) b (fun x=>x=w.heap.size∨w3.heap.size≤x) w w3 from by
   have hz:=SZ.out
   have hz0:=B0.out.size
   exact⟨fun x=>w2.heap.size≤x/\x < w3.heap.size,hW3.keep (KS.refl (fun _=>False) _) (fun x hx h=>⟨⟨h,hx⟩,id⟩),fun x h=>⟨by have:=B2.out.size;omega,h.2,fun e=>by have hx:=blk_lt X2.out;omega⟩,B2.out.trans (hb3.mono B2.out.size)⟩)
  have X3:=AS (blk_below X2.out hb3)
  have ZN:=AS (show w.heap.size≤w3.heap.size from Nat.le_trans B2.out.size hb3.size)
  clear hW3 hb3 e0 e1 e2 e3 e4 e5 e6 e7 e8
  have e0:=cw X3.out 0 (v:=.int .i64 c.nodes)
  have hmin:min c.nodes 64=(nn:Int):=by have:=HNN.out;have:=HN64.out;omega
  go_wp2_with fail
  have R0:=AS (show TopI c (S.World.new c) b (fun x=>x=w.heap.size∨w3.heap.size≤x) w w3/\OwnE intE (.slice none 0 0) (List.replicate 0 (0:Int)) w3/\(∀ x∈foot (.slice none 0 0),w3.heap.size≤x)/\KS (fun x=>w3.heap.size≤x) w3 w3 from⟨T3.out,OwnE.nil _,fun x hx=>by simp[foot_nil] at hx,KS.refl _ _⟩)
  go_loopw [7,42] (fun v7 v42 wr=>∃ (i:Nat) (A:Option Addr) (cp:Nat),v42=.int .i64 i/\i≤nn/\v7=.slice A i cp/\Aside0 (TopI c (S.World.new c) b (fun x=>x=w.heap.size∨w3.heap.size≤x) w wr/\OwnE intE (.slice A i cp) (List.replicate i (0:Int)) wr/\(∀ x∈foot (.slice A i cp),w3.heap.size≤x)/\KS (fun x=>w3.heap.size≤x) w3 wr)) (fun _ v42 _=>nn+1 - (intOf v42).toNat)
  case atStart=>exact⟨0,none,0,rfl,by omega,rfl,R0⟩
  case round =>
   obtain⟨i,A9,cp,rfl,hi,rfl,RL⟩:=hrel
   obtain⟨r1,r2,r3,r4⟩:=RL.out
   by_cases hcc:i < nn
   ·have q0:(0:Int)≤(i:Int):=by omega
    have q1:(i:Int) < (nn:Int):=by omega
    have HII:=AS (show i < 64 from by have:=HN64.out;omega)
    have OA:=AS (show OwnE intE (.slice A9 i cp) (List.replicate i (0:Int)) (wr.alloc (.cells #[.int .i64 0] 3)) from r2.ks (KS.below (fun _=>False) (below_alloc (Below.refl _ _) _)) (fun _ _=>id))
    have RA:=AS (show RowE intE (wr.alloc (.cells #[.int .i64 0] 3)) (some ⟨wr.heap.size,0,none⟩) [(0:Int)] from rowE_one (E:=intE) (x:=(0:Int)) (blk_new wr (.cells #[.int .i64 0] 3)))
    have FIR:=AS (show ∀ v1 w6,OwnE intE v1 (List.replicate i (0:Int) ++ [(0:Int)]) w6->Keeps (foot (.slice A9 i cp)) (wr.alloc (.cells #[.int .i64 0] 3)) w6->(foot v1=foot (.slice A9 i cp)∨foot v1=[(wr.alloc (.cells #[.int .i64 0] 3)).heap.size])->∃ A3 k3,v1=.slice A3 (i+1) k3/\(TopI c (S.World.new c) b (fun x=>x=w.heap.size∨w3.heap.size≤x) w w6/\OwnE intE (.slice A3 (i+1) k3) (List.replicate (i+1) (0:Int)) w6/\(∀ x∈foot (.slice A3 (i+1) k3),w3.heap.size≤x)/\KS (fun x=>w3.heap.size≤x) w3 w6) from fun v1 w6 hO hK hf=>by
     have hk3:KS (fun x=>x∈foot (.slice A9 i cp)) (wr.alloc (.cells #[.int .i64 0] 3)) w6:=KS.keeps hK
     have hk4:KS (fun x=>w3.heap.size≤x) wr w6:=(KS.below _ (below_alloc (Below.refl _ _) _)).trans hk3 (fun x _ hx=>r3 x hx)
     have hrep:List.replicate i (0:Int) ++ [(0:Int)]=List.replicate (i+1) (0:Int):=(List.replicate_succ' ..).symm
     rw[hrep] at hO
     obtain⟨A3,k3,hv,-⟩:=hO.row
     rw[List.length_replicate] at hv
     refine⟨A3,k3,hv,r1.turn hk4 (fun x hx=>⟨.inr hx,Nat.le_trans ZN.out hx⟩),hv ▸ hO,fun x hx=>?_,r4.trans hk4 (fun _ _ h=>h)⟩
     rw[<- hv] at hx
     rcases hf with e | e
     ·rw[e] at hx;exact r3 x hx
     ·rw[e] at hx
      simp only[List.mem_singleton,World.size_alloc] at hx
      have:=r4.size
      omega)
    clear r1 r2 r3 r4 RL
    go_upto_region 9 with fail
    go_wp2_with (first | (at_builtin;refine list_appE (E:=intE) (xs:=List.replicate i (0:Int)) (ys:=[(0:Int)]) (by kernel_rfl) _ _ rfl rfl rfl rfl (by exact OA.out) (by exact RA.out) (by show _ * 8≤_;simp;have h6:=HN64.out;omega) ?_;intro v1 w6 hO hK hf;obtain⟨A3,k3,rfl,hFI⟩:=FIR.out v1 w6 hO hK hf;have FI:=AS hFI;clear hO hK hf hFI) | fail)
    go_roundw
    case rel=>exact⟨i+1,A3,k3,by go_num,by omega,rfl,FI⟩
    case measure=>simp[intOf];omega
   ·have hin:i=nn:=by omega
    subst hin
    clear RL
    obtain⟨gh,ch2,e,hb5,hb6,-,-⟩:=own_some r2 (i:=0) (by rw[List.length_replicate];exact HN64.out.1)
    rw[List.length_replicate] at e hb6
    injection e with e1 e2 e3
    subst e1 e3
    have GW:=AS (show w3.heap.size≤gh from r3 gh (by simp[foot_slice]))
    have X4:=AS (r4.at_ X3.out (fun h=>by have h':w3.heap.size≤w.heap.size:=h;have:=blk_lt X3.out;omega))
    have R4:=AS (show TopI c (runL c (l.take 0)).1 b (fun x=>x=w.heap.size∨x=gh) w wr/\OwnE intE (.slice (some ⟨gh,0,none⟩) (hadL (runL c (l.take 0)).1).length cp) (hadL (runL c (l.take 0)).1) wr/\(hadL (runL c (l.take 0)).1).length=i/\wr.heap[w.heap.size]?=some (.cells #[.int .i64 c.nodes,.int .i64 c.blocks,.int .i64 c.tokens,.int .i64 c.sets,.int .i64 c.ways,.int .i64 c.cap,.int .i64 c.wait,.int .i64 c.tries,.int .i64 c.policy] 23 (0,0)) from by
     have e:hadL (runL c (l.take 0)).1=List.replicate i 0:=by
      show hadL (S.World.new c)=_
      rw[hadL_new,HNN.out];rfl
     rw[e,List.length_replicate]
     exact⟨r1.mono (fun x hx=>by rcases hx with hx | hx;exact .inl hx;exact .inr (by rw[hx];exact GW.out)),r2,rfl,X4.out⟩)
    clear r1 r2 r3 r4 T3 e0 hmin X3 X4 R0
    go_wp2_with fail
    go_loopw [9,10,11,12,14,15,16,17,19,20,22,50] (fun v9 v10 v11 v12 v14 v15 v16 v17 v19 v20 v22 v50 wr=>∃ k:Nat,v50=.int .i64 k/\k≤l.length/\Aside0 (TopI c (runL c (l.take k)).1 b (fun x=>x=w.heap.size∨x=gh) w wr/\OwnE intE (.slice (some ⟨gh,0,none⟩) (hadL (runL c (l.take k)).1).length cp) (hadL (runL c (l.take k)).1) wr/\(hadL (runL c (l.take k)).1).length=i/\wr.heap[w.heap.size]?=some (.cells #[.int .i64 c.nodes,.int .i64 c.blocks,.int .i64 c.tokens,.int .i64 c.sets,.int .i64 c.ways,.int .i64 c.cap,.int .i64 c.wait,.int .i64 c.tries,.int .i64 c.policy] 23 (0,0)))) (fun _ _ _ _ _ _ _ _ _ _ _ v50 _=>l.length+1 - (intOf v50).toNat)
    case atStart =>
     exact⟨0,rfl,by omega,R4⟩
    case round =>
     obtain⟨k,rfl,hk,RK⟩:=hrel
     obtain⟨r1,r2,r3,r4⟩:=RK.out
     by_cases hkk:k < l.length
     ·obtain⟨ad,rfl,g0,g1,g2,g3,g4⟩:=entry_at RR.out hkk
      have q0:(0:Int)≤(k:Int):=by omega
      have q1:(k:Int) < (l.length:Int):=by omega
      have m0:=(r1.out.cell (World.block_lt_of_cell? w _ g0)).trans g0
      have m1:=(r1.out.cell (World.block_lt_of_cell? w _ g1)).trans g1
      have m2:=(r1.out.cell (World.block_lt_of_cell? w _ g2)).trans g2
      have m3:=(r1.out.cell (World.block_lt_of_cell? w _ g3)).trans g3
      have m4:=(r1.out.cell (World.block_lt_of_cell? w _ g4)).trans g4
      clear g0 g1 g2 g3 g4
      have hok:=OK.out k hk
      have SN:=runL_snoc c l hkk
      obtain⟨en,hen⟩:∃ en,l.getD k ent0=en:=⟨_,rfl⟩
      rw[hen] at m0 m1 m2 m3 m4 SN
      clear hen
      obtain⟨k_,a_,b_,c_,d_⟩:=en
      simp only at m0 m1 m2 m3 m4
      generalize runL c (l.take k)=a0 at r1 r2 r3 hok SN
      obtain⟨s,rd⟩:=a0
      have hl3:=HL.out
      have hst:s.steps=k:=hok.2.1
      have hT0:WOk c s:=hok.1
      have HS:=AS (fun j hj x hx hs=>had_step HC.out hT0 (by omega) ⟨k_,a_,b_,c_,d_⟩ j hj x hx hs)
      have HWS:=AS (wok_step HC.out hT0 (by omega) ⟨k_,a_,b_,c_,d_⟩)
      have SN1:=AS (show(runL c (l.take (k+1))).1=(s.step c ⟨k_,a_,b_,c_,d_⟩).1 from by rw[SN];rfl)
      have HLN:=AS (show s.nodes.length=i from hT0.t.len.trans (by rw[HNN.out];rfl))
      have BX:=AS (below_alloc (Below.refl wr.heap.size wr) (.cells #[.int .i64 k_,.int .i64 a_,.int .i64 b_,.int .i64 c_,.int .i64 d_] 33))
      have T1:=AS (r1.below BX.out)
      have O1:=AS (r2.ks (KS.below (fun _=>False) BX.out) (fun _ _=>id))
      have X1:=AS (blk_below r4 BX.out)
      have ST:=AS (T1.out.step (fun x hx=>by
       rcases hx with hx | hx
       ·rw[hx];exact blk_lt X1.out
       ·rw[hx];exact O1.out.lt gh (by simp[foot_slice])) (WOk.bounds HC.out hT0 (by omega) rfl rfl rfl) ⟨k_,a_,b_,c_,d_⟩)
      have XB:=AS (blk_new wr (.cells #[.int .i64 k_,.int .i64 a_,.int .i64 b_,.int .i64 c_,.int .i64 d_] 33))
      have HL0:=AS r3
      clear r1 r2 r3 r4 hok SN hst hT0 RK
      simp only[entV] at ST
      go_upto_region 14 with fail
      generalize wr.alloc (.cells #[.int .i64 k_,.int .i64 a_,.int .i64 b_,.int .i64 c_,.int .i64 d_] 33)=W1 at BX T1 O1 X1 ST XB ⊢
      have x0:=cw XB.out 0 (v:=.int .i64 k_)
      have x1:=cw XB.out 1 (v:=.int .i64 a_)
      have x2:=cw XB.out 2 (v:=.int .i64 b_)
      have x3:=cw XB.out 3 (v:=.int .i64 c_)
      have x4:=cw XB.out 4 (v:=.int .i64 d_)
      clear m0 m1 m2 m3 m4
      go_wp2_with fail
      refine ST.out.mono ?_
      rintro e w5 ⟨A5,n5,cp5,rfl,hT5,hD5,hk5⟩
      have hn5:n5=(s.step c ⟨k_,a_,b_,c_,d_⟩).2.2.length:=by obtain⟨A,c',e,-⟩:=hD5.row;injection e
      subst hn5
      have O5:=AS (O1.out.ks hk5 (fun x hx h=>h.2 (by rw[foot_slice,List.mem_singleton] at hx;exact .inr hx)))
      have X5:=AS (hk5.at_ X1.out (fun h=>h.2 (.inl rfl)))
      have T5:=AS hT5
      have D5:=AS hD5
      clear hT5 hD5 hk5 ST T1 O1 X1 BX XB x0 x1 x2 x3 x4
      generalize s.step c ⟨k_,a_,b_,c_,d_⟩=ST at T5 D5 HS HWS SN1 ⊢
      obtain⟨s',rk,dk⟩:=ST
      simp only at D5 HS HWS SN1 T5 ⊢
      have SH:=AS (T5.out.shot HWS.out HC.out)
      go_wp2_with fail
      refine SH.out.mono ?_
      rintro e w6 ⟨Ap,Ah,Af,np,cp2,nh,ch,nf,cf,ps,rfl,hS,hb6⟩
      obtain⟨rfl,rfl,hQ⟩:=ShotS.of HWS.out hS
      have B6:=AS (below_alloc hb6 (.cells #[.int .i64 s'.steps,.int .i64 s'.ticks,.slice Ap ps.length cp2,.slice Ah nh ch,.slice Af s'.way.length cf] 41))
      have T6:=AS (T5.out.below B6.out)
      have O6:=AS (O5.out.ks (KS.below (fun _=>False) B6.out) (fun _ _=>id))
      have X6:=AS (blk_below X5.out B6.out)
      have D6:=AS (D5.out.ks (KS.below (fun _=>False) B6.out) (fun _ _=>id))
      have Q6:=AS (hQ.ks (KS.below (fun _=>False) (below_alloc (Below.refl w6.heap.size w6) (.cells #[.int .i64 s'.steps,.int .i64 s'.ticks,.slice Ap ps.length cp2,.slice Ah nh ch,.slice Af s'.way.length cf] 41))) (fun x h=>h.elim))
      have XS:=AS (blk_new w6 (.cells #[.int .i64 s'.steps,.int .i64 s'.ticks,.slice Ap ps.length cp2,.slice Ah nh ch,.slice Af s'.way.length cf] 41))
      have HPL:=AS (show ps.length=i from hQ.len.trans (HWS.out.t.len.trans (by rw[HNN.out];rfl)))
      clear hS hb6 hQ SH T5 O5 X5 D5
      simp only[shotV]
      go_upto_region 16 with fail
      generalize w6.alloc (.cells #[.int .i64 s'.steps,.int .i64 s'.ticks,.slice Ap ps.length cp2,.slice Ah nh ch,.slice Af s'.way.length cf] 41)=W6 at B6 T6 O6 X6 D6 Q6 XS ⊢
      generalize w6.heap.size=q at XS ⊢
      have x2:=cw XS.out 2 (v:=.slice Ap ps.length cp2)
      have e0:W6.cell? ⟨w.heap.size,0,none⟩=some (.int .i64 i):=by rw[<- HNN.out];exact(cw X6.out 0)
      have d16:((ps.length:Int) != (i:Int))=false:=by rw[HPL.out];simp
      have d16':((ps.length:Int) == (i:Int))=true:=by rw[HPL.out];simp
      have BK:=AS (own_blk3 O6.out)
      have HG3:=AS (show ∀ x,x=gh->∃ arr,W6.heap[x]?=some (.cells arr 3 (0,0)) from fun x e=>by rw[e];exact BK.out)
      have HNG:=AS (show ¬ q=gh/\¬ w.heap.size=gh from⟨fun e=>by
       obtain⟨arr,h⟩:=BK.out
       rw[<- e,XS.out] at h
       simp at h,fun e=>by
       obtain⟨arr,h⟩:=BK.out
       rw[<- e,X6.out] at h
       simp at h⟩)
      have DON:=AS (show ∃ hv:List Int,KS (fun x=>x=gh) W6 W6/\OwnE intE (.slice (some ⟨gh,0,none⟩) hv.length cp) hv W6/\hv.length=i/\∀ j:Nat,j < i->hv.getD j 0=0∨((∀ x∈dk.take 0,x.node≠j)/\hv.getD j 0=(hadL s).getD j 0) from⟨hadL s,KS.refl _ _,O6.out,HL0.out,fun j hj=>.inr ⟨fun x hx=>by simp at hx,rfl⟩⟩)
      go_wp2_with fail
      go_loopw [14,70] (fun v14 v70 wr=>∃ d:Nat,v70=.int .i64 d/\d≤dk.length/\Aside0 (∃ hv:List Int,KS (fun x=>x=gh) W6 wr/\OwnE intE (.slice (some ⟨gh,0,none⟩) hv.length cp) hv wr/\hv.length=i/\∀ j:Nat,j < i->hv.getD j 0=0∨((∀ x∈dk.take d,x.node≠j)/\hv.getD j 0=(hadL s).getD j 0))) (fun _ v70 _=>dk.length+1 - (intOf v70).toNat)
      case atStart=>exact⟨0,rfl,by omega,DON⟩
      case round =>
       obtain⟨d,rfl,hd,RD⟩:=hrel
       obtain⟨hv,s1,s2,s3,s4⟩:=RD.out
       by_cases hdd:d < dk.length
       ·have p0:(0:Int)≤(d:Int):=by omega
        have p1:(d:Int) < (dk.length:Int):=by omega
        have DR:=AS (D6.out.ks s1 (fun x hx e=>by obtain⟨arr,h⟩:=HG3.out x e;exact own_apart_blk D6.out h (by decide) hx))
        obtain⟨gd,cd2,e,hb7,hb8,hgd,hcell⟩:=own_some DR.out hdd
        injection e with e1 e2 e3
        subst e1 e3
        have n0_:wr.cell? ⟨gd,d * 7,none⟩=some (.int .i64 (dk.getD d done0).node):=(hcell 0 (by decide)).trans rfl
        have n1_:wr.cell? ⟨gd,d * 7+1,none⟩=some (.int .i64 (dk.getD d done0).number):=(hcell 1 (by decide)).trans rfl
        have n2_:wr.cell? ⟨gd,d * 7+2,none⟩=some (.int .i64 (dk.getD d done0).op.block):=(hcell 2 (by decide)).trans rfl
        have n3_:wr.cell? ⟨gd,d * 7+3,none⟩=some (.bool (dk.getD d done0).op.write):=(hcell 3 (by decide)).trans rfl
        have n4_:wr.cell? ⟨gd,d * 7+4,none⟩=some (.int .i64 (dk.getD d done0).op.value):=(hcell 4 (by decide)).trans rfl
        have n5_:wr.cell? ⟨gd,d * 7+5,none⟩=some (.int .i64 (dk.getD d done0).value):=(hcell 5 (by decide)).trans rfl
        have n6_:wr.cell? ⟨gd,d * 7+6,none⟩=some (.int .i64 (dk.getD d done0).step):=(hcell 6 (by decide)).trans rfl
        have htk:dk.take (d+1)=dk.take d ++ [dk.getD d done0]:=by rw[List.take_add_one,List.getElem?_eq_getElem hdd,List.getD_eq_getElem?_getD,List.getElem?_eq_getElem hdd];rfl
        obtain⟨x,hx⟩:∃ x,dk.getD d done0=x:=⟨_,rfl⟩
        rw[hx] at htk n0_ n1_ n2_ n3_ n4_ n5_ n6_
        clear hx hcell
        obtain⟨dn,du,⟨dl,dw,dv⟩,da,ds⟩:=x
        simp only at n0_ n1_ n2_ n3_ n4_ n5_ n6_
        have OA:=AS (s2.ks (KS.below (fun _=>False) (below_alloc (Below.refl wr.heap.size wr) (.cells #[.int .i64 dn,.int .i64 du,.int .i64 dl,.bool dw,.int .i64 dv,.int .i64 da,.int .i64 ds] 59))) (fun _ _=>id))
        have KA:=AS (KS.alloc s1 (.cells #[.int .i64 dn,.int .i64 du,.int .i64 dl,.bool dw,.int .i64 dv,.int .i64 da,.int .i64 ds] 59))
        have XA:=AS (blk_new wr (.cells #[.int .i64 dn,.int .i64 du,.int .i64 dl,.bool dw,.int .i64 dv,.int .i64 da,.int .i64 ds] 59))
        have XC:=AS (blk_alloc (s1.at_ X6.out HNG.out.2) (.cells #[.int .i64 dn,.int .i64 du,.int .i64 dl,.bool dw,.int .i64 dv,.int .i64 da,.int .i64 ds] 59))
        have S4:=AS s4
        have S3:=AS s3
        have TK:=AS htk
        clear s1 s2 s3 s4 RD htk
        go_upto_region 21 with fail
        generalize wr.alloc (.cells #[.int .i64 dn,.int .i64 du,.int .i64 dl,.bool dw,.int .i64 dv,.int .i64 da,.int .i64 ds] 59)=Wa at OA KA XA XC ⊢
        have y0:=cw XA.out 0 (v:=.int .i64 dn)
        have e0a:Wa.cell? ⟨w.heap.size,0,none⟩=some (.int .i64 i):=by rw[<- HNN.out];exact(cw XC.out 0)
        clear n0_ n1_ n2_ n3_ n4_ n5_ n6_
        by_cases hin:0≤dn/\dn < i
        ·obtain⟨m,hm⟩:∃ m:Nat,dn=m:=⟨dn.toNat,by omega⟩
         subst hm
         have hmi:m < hv.length:=by have:=S3.out;omega
         have u0:(0:Int)≤(m:Int):=by omega
         have u1:(m:Int) < (i:Int):=by omega
         have u2:(m:Int) < (hv.length:Int):=by omega
         obtain⟨_,zf⟩:=own_geti OA.out hmi
         have zc:=(own_geti OA.out hmi).1
         have O7:=AS (own_seti OA.out hmi 0)
         have K7:=AS (KS.set KA.out (.inl rfl) m (.int .i64 0) (g:=gh))
         have P7:=AS (show ∀ j:Nat,j < i->(hv.set m 0).getD j 0=0∨((∀ x∈dk.take (d+1),x.node≠j)/\(hv.set m 0).getD j 0=(hadL s).getD j 0) from fun j hj=>by
          rw[S.getD_set]
          by_cases e:m=j/\m < hv.length
          ·rw[if_pos e];exact .inl rfl
          ·rw[if_neg e]
           rcases S4.out j hj with h | ⟨h1,h2⟩
           ·exact .inl h
           ·refine .inr ⟨fun x hx=>?_,h2⟩
            rw[TK.out] at hx
            rcases List.mem_append.1 hx with hx | hx
            ·exact h1 x hx
            ·rw[List.mem_singleton.1 hx]
             intro e'
             have e'':(m:Int)=(j:Int):=e'
             exact e ⟨by omega,hmi⟩)
         clear hin
         go_wp2
         go_roundw
         case rel=>exact⟨d+1,by go_num,by omega,⟨⟨_,K7.out,O7.out,by rw[List.length_set];exact S3.out,P7.out⟩⟩⟩
         case measure=>simp[intOf];omega
        ·have P7:=AS (show ∀ j:Nat,j < i->hv.getD j 0=0∨((∀ x∈dk.take (d+1),x.node≠j)/\hv.getD j 0=(hadL s).getD j 0) from fun j hj=>by
          rcases S4.out j hj with h | ⟨h1,h2⟩
          ·exact .inl h
          ·refine .inr ⟨fun x hx=>?_,h2⟩
           rw[TK.out] at hx
           rcases List.mem_append.1 hx with hx | hx
           ·exact h1 x hx
           ·rw[List.mem_singleton.1 hx]
            intro e'
            have e'':dn=(j:Int):=e'
            exact hin (by omega))
         by_cases h0:0≤dn
         ·have d0:decide (0≤dn)=true:=decide_eq_true h0
          have d1:decide (dn < (i:Int))=false:=decide_eq_false (fun h=>hin ⟨h0,h⟩)
          clear hin
          go_wp2
          go_roundw
          case rel=>exact⟨d+1,by go_num,by omega,⟨⟨hv,KA.out,OA.out,S3.out,P7.out⟩⟩⟩
          case measure=>simp[intOf];omega
         ·have d0:decide (0≤dn)=false:=decide_eq_false h0
          clear hin
          go_wp2
          go_roundw
          case rel=>exact⟨d+1,by go_num,by omega,⟨⟨hv,KA.out,OA.out,S3.out,P7.out⟩⟩⟩
          case measure=>simp[intOf];omega
       ·have hdn:d=dk.length:=by omega
        subst hdn
        rw[List.take_length] at s4
        have HV0:=AS (fun j hj=>s4 j hj)
        have O8:=AS s2
        have T8:=AS (T6.out.turn s1 (fun x e=>by
         have e':x=gh:=e
         exact⟨.inr e',by rw[e'];exact Nat.le_trans ZN.out GW.out⟩))
        have Q8:=AS (Q6.out.ks s1 HG3.out)
        have X8:=AS (s1.at_ X6.out HNG.out.2)
        have XS8:=AS (s1.at_ XS.out HNG.out.1)
        have S3:=AS s3
        clear s1 s2 s3 s4 RD e0 x2
        go_upto_region 24 with fail
        have k2:=cw XS8.out 2 (v:=.slice Ap ps.length cp2)
        generalize wr=W8 at O8 T8 Q8 X8 XS8 k2 ⊢
        have HG8:=AS (show ∀ x,x=gh->∃ arr,W8.heap[x]?=some (.cells arr 3 (0,0)) from fun x e=>by rw[e];exact own_blk3 O8.out)
        have N0:=AS (show ∃ hw:List Int,KS (fun x=>x=gh) W8 W8/\OwnE intE (.slice (some ⟨gh,0,none⟩) hw.length cp) hw W8/\hw.length=i/\∀ j:Nat,j < i->hw.getD j 0=if j < 0 then hadF (s'.nodes.getD j (S.Node.new j)) else hv.getD j 0 from⟨hv,KS.refl _ _,O8.out,S3.out,fun j hj=>by rw[if_neg (by omega)]⟩)
        obtain⟨Akn,hA⟩:=known_one HWS.out.t (f:=fun k=>(s'.home.queue.rows.getD k.toNat ar0).seq) (fun k hk=>by simp)
        have KA:=AS hA
        clear hA d16 d16'
        go_wp2
        go_loopw [15,16,17,19,20,22,92] (fun v15 v16 v17 v19 v20 v22 v92 wr=>∃ a:Nat,v92=.int .i64 a/\a≤ps.length/\Aside0 (∃ hw:List Int,KS (fun x=>x=gh) W8 wr/\OwnE intE (.slice (some ⟨gh,0,none⟩) hw.length cp) hw wr/\hw.length=i/\∀ j:Nat,j < i->hw.getD j 0=if j < a then hadF (s'.nodes.getD j (S.Node.new j)) else hv.getD j 0)) (fun _ _ _ _ _ _ v92 _=>ps.length+1 - (intOf v92).toNat)
        case atStart=>exact⟨0,rfl,by omega,N0⟩
        case round =>
         obtain⟨a,rfl,ha,RA⟩:=hrel
         obtain⟨hw,u1,u2,u3,u4⟩:=RA.out
         by_cases haa:a < ps.length
         ·have p0:(0:Int)≤(a:Int):=by omega
          have p1:(a:Int) < (ps.length:Int):=by omega
          have hai:a < i:=by have:=HPL.out;omega
          have QA:=AS (Q8.out.ks u1 HG8.out)
          obtain⟨gp,cp3,e,hb7,hb8,hgp,hcell⟩:=own_some QA.out.pls haa
          injection e with e1 e2 e3
          subst e1 e3
          obtain⟨Al,cl9,X,hAl,hOX,hX⟩:=QA.out.lns a haa
          obtain⟨Ac,cc,L,hAc,hOL,hL⟩:=QA.out.acs a haa
          obtain⟨hbu,hop⟩:=QA.out.nod a haa
          have n0_:wr.cell? ⟨gp,a * 6,none⟩=some ((ps.getD a placeE.d).lines):=(hcell 0 (by decide)).trans rfl
          have n1_:wr.cell? ⟨gp,a * 6+1,none⟩=some (.bool (ps.getD a placeE.d).busy):=(hcell 1 (by decide)).trans rfl
          have n2_:wr.cell? ⟨gp,a * 6+2,none⟩=some (.int .i64 (ps.getD a placeE.d).op.block):=(hcell 2 (by decide)).trans rfl
          have n3_:wr.cell? ⟨gp,a * 6+3,none⟩=some (.bool (ps.getD a placeE.d).op.write):=(hcell 3 (by decide)).trans rfl
          have n4_:wr.cell? ⟨gp,a * 6+4,none⟩=some (.int .i64 (ps.getD a placeE.d).op.value):=(hcell 4 (by decide)).trans rfl
          have n5_:wr.cell? ⟨gp,a * 6+5,none⟩=some ((ps.getD a placeE.d).acts):=(hcell 5 (by decide)).trans rfl
          rw[hAl] at n0_
          rw[hAc] at n5_
          rw[hbu] at n1_
          rw[hop] at n2_ n3_ n4_
          have hin:=getD_mem (S.Node.new a) (show a < s'.nodes.length by rw[<- QA.out.len];exact haa)
          have hid:(s'.nodes.getD a (S.Node.new a)).id=a:=HWS.out.t.ids a (by rw[<- HWS.out.t.len,<- QA.out.len];exact haa)
          have hu4:=u4 a hai
          rw[if_neg (by omega)] at hu4
          have HSA:=AS (fun hs=>HS.out a (by rw[HLN.out];exact hai) (hv.getD a 0) (HV0.out a hai) hs)
          have U4:=AS u4
          obtain⟨n,hn⟩:∃ n,s'.nodes.getD a (S.Node.new a)=n:=⟨_,rfl⟩
          rw[hn] at hOX hX hOL hL n1_ n2_ n3_ n4_ hin hid HSA
          have HN:=AS hn
          have OWN:=AS (ownB_all hid hL (fun b a' h=>(KA.out n hin b a' h).1))
          have CNT:=AS (cntB_all hX)
          clear hAl hAc hbu hop hcell hin hid u4 hn hL hX
          have XP:=AS (blk_new wr (.cells #[.slice Al X.length cl9,.bool n.cpu.busy,.int .i64 n.cpu.op.block,.bool n.cpu.op.write,.int .i64 n.cpu.op.value,.slice Ac L.length cc] 53))
          have OWB:=AS (u2.ks (KS.below (fun _=>False) (below_alloc (Below.refl wr.heap.size wr) (.cells #[.slice Al X.length cl9,.bool n.cpu.busy,.int .i64 n.cpu.op.block,.bool n.cpu.op.write,.int .i64 n.cpu.op.value,.slice Ac L.length cc] 53))) (fun _ _=>id))
          have OXB:=AS (hOX.ks (KS.below (fun _=>False) (below_alloc (Below.refl wr.heap.size wr) (.cells #[.slice Al X.length cl9,.bool n.cpu.busy,.int .i64 n.cpu.op.block,.bool n.cpu.op.write,.int .i64 n.cpu.op.value,.slice Ac L.length cc] 53))) (fun _ _=>id))
          have OLB:=AS (hOL.ks (KS.below (fun _=>False) (below_alloc (Below.refl wr.heap.size wr) (.cells #[.slice Al X.length cl9,.bool n.cpu.busy,.int .i64 n.cpu.op.block,.bool n.cpu.op.write,.int .i64 n.cpu.op.value,.slice Ac L.length cc] 53))) (fun _ _=>id))
          have KSB:=AS (KS.alloc u1 (.cells #[.slice Al X.length cl9,.bool n.cpu.busy,.int .i64 n.cpu.op.block,.bool n.cpu.op.write,.int .i64 n.cpu.op.value,.slice Ac L.length cc] 53))
          have U3:=AS u3
          have HU:=AS hu4
          clear u1 u2 u3 hOX hOL RA hu4
          go_upto_region 27 with fail
          generalize wr.alloc (.cells #[.slice Al X.length cl9,.bool n.cpu.busy,.int .i64 n.cpu.op.block,.bool n.cpu.op.write,.int .i64 n.cpu.op.value,.slice Ac L.length cc] 53)=Wb at XP OWB OXB OLB KSB ⊢
          generalize wr.heap.size=pb at XP ⊢
          clear n0_ n1_ n2_ n3_ n4_ n5_
          have k5:=cw XP.out 5 (v:=.slice Ac L.length cc)
          have L5:=AS (show Below Wb.heap.size Wb Wb/\false=ownB n a (L.take 0) from⟨Below.refl _ _,rfl⟩)
          go_wp2
          go_loopw [17,19,100] (fun v17 v19 v100 wr=>∃ (d:Nat) (ov:Bool),v100=.int .i64 d/\d≤L.length/\v17=.bool ov/\Aside0 (Below Wb.heap.size Wb wr/\ov=ownB n a (L.take d))) (fun _ _ v100 _=>L.length+1 - (intOf v100).toNat)
          case atStart=>exact⟨0,false,rfl,by omega,rfl,L5⟩
          case round =>
           obtain⟨d,ov,rfl,hd,rfl,RD⟩:=hrel
           obtain⟨v1,v2⟩:=RD.out
           by_cases hdd:d < L.length
           ·have p2:(0:Int)≤(d:Int):=by omega
            have p3:(d:Int) < (L.length:Int):=by omega
            have OD:=AS (OLB.out.ks (KS.below (fun _=>False) v1) (fun _ _=>id))
            have hdm:d < (L.map (Table.actOf n.know)).length:=by rw[List.length_map];exact hdd
            obtain⟨ga,ca3,e,hb9,hb10,hga,hcell⟩:=own_some OD.out hdm
            injection e with e1 e2 e3
            subst e1 e3
            have c0_:wr.cell? ⟨ga,d * 3,none⟩=some (.int .i64 ((L.map (Table.actOf n.know)).getD d act0).block):=(hcell 0 (by decide)).trans rfl
            have c1_:wr.cell? ⟨ga,d * 3+1,none⟩=some (.int .i64 ((L.map (Table.actOf n.know)).getD d act0).node):=(hcell 1 (by decide)).trans rfl
            have c2_:wr.cell? ⟨ga,d * 3+2,none⟩=some (.int .i64 ((L.map (Table.actOf n.know)).getD d act0).seq):=(hcell 2 (by decide)).trans rfl
            have hg:(L.map (Table.actOf n.know)).getD d act0=Table.actOf n.know (L[d]'hdd):=by
             rw[List.getD_eq_getElem?_getD,List.getElem?_map,List.getElem?_eq_getElem hdd];rfl
            rw[hg] at c0_ c1_ c2_
            have hsn:=ownB_snoc n a L hdd
            rw[<- v2] at hsn
            rw[List.length_map] at hb10 e2
            generalize Table.actOf n.know (L[d]'hdd)=x at c0_ c1_ c2_ hsn
            clear hg hcell hdm e2
            obtain⟨ab,an,aq⟩:=x
            simp only at c0_ c1_ c2_ hsn
            have XA:=AS (blk_new wr (.cells #[.int .i64 ab,.int .i64 an,.int .i64 aq] 55))
            have XPA:=AS (blk_alloc (blk_below XP.out v1) (.cells #[.int .i64 ab,.int .i64 an,.int .i64 aq] 55))
            have BA:=AS (below_alloc v1 (.cells #[.int .i64 ab,.int .i64 an,.int .i64 aq] 55))
            have SNC:=AS hsn
            clear v1 v2 RD hsn
            go_upto_region 31 with fail
            generalize wr.alloc (.cells #[.int .i64 ab,.int .i64 an,.int .i64 aq] 55)=Wc at XA XPA BA ⊢
            have y0:=cw XA.out 0 (v:=.int .i64 ab)
            have y1:=cw XA.out 1 (v:=.int .i64 an)
            have z1:=cw XPA.out 1 (v:=.bool n.cpu.busy)
            have z2:=cw XPA.out 2 (v:=.int .i64 n.cpu.op.block)
            clear c0_ c1_ c2_
            cases ov with
            | true =>
             go_wp2
             go_roundw
             case rel=>exact⟨d+1,true,by go_num,by omega,rfl,⟨⟨BA.out,by rw[SNC.out];rfl⟩⟩⟩
             case measure=>simp[intOf];omega
            | false =>
             by_cases hbf:n.cpu.busy=false
             ·rw[hbf] at z1
              have S1:=AS (show false=ownB n a (L.take (d+1)) from by rw[SNC.out,hbf];rfl)
              clear hbf
              go_wp2
              go_roundw
              case rel=>exact⟨d+1,false,by go_num,by omega,rfl,⟨⟨BA.out,S1.out⟩⟩⟩
              case measure=>simp[intOf];omega
             ·have hbu:n.cpu.busy=true:=by simpa using hbf
              rw[hbu] at z1
              have HBU:=AS hbu
              clear hbu hbf
              cases d1:(ab == n.cpu.op.block) with
              | false =>
               have S1:=AS (show false=ownB n a (L.take (d+1)) from by rw[SNC.out,HBU.out,d1];rfl)
               go_wp2
               go_roundw
               case rel=>exact⟨d+1,false,by go_num,by omega,rfl,⟨⟨BA.out,S1.out⟩⟩⟩
               case measure=>simp[intOf];omega
              | true =>
               cases d2:(an == (a:Int)) with
               | false =>
                have S1:=AS (show false=ownB n a (L.take (d+1)) from by rw[SNC.out,HBU.out,d1,d2];rfl)
                go_wp2
                go_roundw
                case rel=>exact⟨d+1,false,by go_num,by omega,rfl,⟨⟨BA.out,S1.out⟩⟩⟩
                case measure=>simp[intOf];omega
               | true =>
                have S1:=AS (show true=ownB n a (L.take (d+1)) from by rw[SNC.out,HBU.out,d1,d2];rfl)
                go_wp2
                go_roundw
                case rel=>exact⟨d+1,true,by go_num,by omega,rfl,⟨⟨BA.out,S1.out⟩⟩⟩
                case measure=>simp[intOf];omega
           ·have hdn:d=L.length:=by omega
            subst hdn
            rw[List.take_length,OWN.out] at v2
            have B5:=AS v1
            have V2:=AS v2
            have z0:=cw (blk_below XP.out v1) 0 (v:=.slice Al X.length cl9)
            have L6:=AS (show Below Wb.heap.size Wb wr/\0=cntB ov n.cpu.op.block n.lines.tok (X.take 0) from⟨v1,rfl⟩)
            clear v1 v2 RD k5
            go_wp2
            go_loopw [20,22,127] (fun v20 v22 v127 wr=>∃ (d:Nat) (cv:Int),v127=.int .i64 d/\d≤X.length/\v20=.int .i64 cv/\Aside0 (Below Wb.heap.size Wb wr/\cv=cntB ov n.cpu.op.block n.lines.tok (X.take d))) (fun _ _ v127 _=>X.length+1 - (intOf v127).toNat)
            case atStart=>exact⟨0,0,rfl,by omega,rfl,L6⟩
            case round =>
             obtain⟨d,cv,rfl,hd,rfl,RD⟩:=hrel
             obtain⟨v1,v2⟩:=RD.out
             by_cases hdd:d < X.length
             ·have p2:(0:Int)≤(d:Int):=by omega
              have p3:(d:Int) < (X.length:Int):=by omega
              have OD:=AS (OXB.out.ks (KS.below (fun _=>False) v1) (fun _ _=>id))
              have hdm:d < (X.map fun x=>(⟨x,n.lines.tok x⟩:S.Line)).length:=by rw[List.length_map];exact hdd
              obtain⟨ga,ca3,e,hb9,hb10,hga,hcell⟩:=own_some OD.out hdm
              injection e with e1 e2 e3
              subst e1 e3
              have c0_:wr.cell? ⟨ga,d * 5,none⟩=some (.int .i64 ((X.map fun x=>(⟨x,n.lines.tok x⟩:S.Line)).getD d lineE.d).block):=(hcell 0 (by decide)).trans rfl
              have c1_:wr.cell? ⟨ga,d * 5+1,none⟩=some (.int .i64 ((X.map fun x=>(⟨x,n.lines.tok x⟩:S.Line)).getD d lineE.d).bun.count):=(hcell 1 (by decide)).trans rfl
              have c2_:wr.cell? ⟨ga,d * 5+2,none⟩=some (.bool ((X.map fun x=>(⟨x,n.lines.tok x⟩:S.Line)).getD d lineE.d).bun.owner):=(hcell 2 (by decide)).trans rfl
              have c3_:wr.cell? ⟨ga,d * 5+3,none⟩=some (.bool ((X.map fun x=>(⟨x,n.lines.tok x⟩:S.Line)).getD d lineE.d).bun.has):=(hcell 3 (by decide)).trans rfl
              have c4_:wr.cell? ⟨ga,d * 5+4,none⟩=some (.int .i64 ((X.map fun x=>(⟨x,n.lines.tok x⟩:S.Line)).getD d lineE.d).bun.data):=(hcell 4 (by decide)).trans rfl
              have hg:(X.map fun x=>(⟨x,n.lines.tok x⟩:S.Line)).getD d lineE.d=⟨X[d]'hdd,n.lines.tok (X[d]'hdd)⟩:=by
               rw[List.getD_eq_getElem?_getD,List.getElem?_map,List.getElem?_eq_getElem hdd];rfl
              rw[hg] at c0_ c1_ c2_ c3_ c4_
              have hsn:=cntB_snoc ov n.cpu.op.block n.lines.tok X hdd
              rw[<- v2] at hsn
              rw[List.length_map] at hb10 e2
              simp only at c0_ c1_ c2_ c3_ c4_
              generalize n.lines.tok (X[d]'hdd)=y at c1_ c2_ c3_ c4_ hsn
              generalize X[d]'hdd=lb at c0_ hsn
              clear hg hcell hdm e2
              obtain⟨lc,lo,lh,ld⟩:=y
              simp only at c0_ c1_ c2_ c3_ c4_ hsn
              have XA:=AS (blk_new wr (.cells #[.int .i64 lb,.int .i64 lc,.bool lo,.bool lh,.int .i64 ld] 61))
              have XPA:=AS (blk_alloc (blk_below XP.out v1) (.cells #[.int .i64 lb,.int .i64 lc,.bool lo,.bool lh,.int .i64 ld] 61))
              have BA:=AS (below_alloc v1 (.cells #[.int .i64 lb,.int .i64 lc,.bool lo,.bool lh,.int .i64 ld] 61))
              have SNC:=AS hsn
              clear v1 v2 RD hsn
              go_upto_region 37 with fail
              generalize wr.alloc (.cells #[.int .i64 lb,.int .i64 lc,.bool lo,.bool lh,.int .i64 ld] 61)=Wc at XA XPA BA ⊢
              have y0:=cw XA.out 0 (v:=.int .i64 lb)
              have y1:=cw XA.out 1 (v:=.int .i64 lc)
              have z2:=cw XPA.out 2 (v:=.int .i64 n.cpu.op.block)
              clear c0_ c1_ c2_ c3_ c4_
              cases ov with
              | false =>
               have S1:=AS (show cv=cntB false n.cpu.op.block n.lines.tok (X.take (d+1)) from by rw[SNC.out];rfl)
               go_wp2
               go_roundw
               case rel=>exact⟨d+1,cv,by go_num,by omega,rfl,⟨⟨BA.out,S1.out⟩⟩⟩
               case measure=>simp[intOf];omega
              | true =>
               cases d1:(lb == n.cpu.op.block) with
               | false =>
                have S1:=AS (show cv=cntB true n.cpu.op.block n.lines.tok (X.take (d+1)) from by rw[SNC.out,d1];rfl)
                go_wp2
                go_roundw
                case rel=>exact⟨d+1,cv,by go_num,by omega,rfl,⟨⟨BA.out,S1.out⟩⟩⟩
                case measure=>simp[intOf];omega
               | true =>
                have S1:=AS (show lc=cntB true n.cpu.op.block n.lines.tok (X.take (d+1)) from by rw[SNC.out,d1];rfl)
                go_wp2
                go_roundw
                case rel=>exact⟨d+1,lc,by go_num,by omega,rfl,⟨⟨BA.out,S1.out⟩⟩⟩
                case measure=>simp[intOf];omega
             ·have hdn:d=X.length:=by omega
              subst hdn
              rw[List.take_length] at v2
              have hcv:cv=hadF n:=by rw[v2,V2.out];exact CNT.out
              have B6:=AS v1
              have OW9:=AS (OWB.out.ks (KS.below (fun _=>False) v1) (fun _ _=>id))
              have hah:a < hw.length:=by rw[U3.out];exact hai
              have t0:(a:Int) < (hw.length:Int):=by omega
              obtain⟨zc,zf⟩:=own_geti OW9.out hah
              have O9:=AS (own_seti OW9.out hah cv)
              have K9:=AS (KS.set (KSB.out.andBelow v1) (.inl rfl) a (.int .i64 cv) (g:=gh))
              have P9:=AS (show ∀ j:Nat,j < i->(hw.set a cv).getD j 0=if j < a+1 then hadF (s'.nodes.getD j (S.Node.new j)) else hv.getD j 0 from fun j hj=>by
               rw[S.getD_set]
               by_cases e:a=j/\a < hw.length
               ·rw[if_pos e,if_pos (by omega),hcv,<- HN.out,e.1]
               ·rw[if_neg e,U4.out j hj]
                by_cases e2:j < a
                ·rw[if_pos e2,if_pos (by omega)]
                ·rw[if_neg e2,if_neg (by have:=e;omega)])
              have hnl:ov=true->¬ cv < hw.getD a 0:=fun ho=>by
               have h1:=HSA.out (by rw[<- V2.out];exact ho)
               rw[HU.out,hcv]
               unfold hadF
               rw[if_pos (by rw[<- V2.out];exact ho)]
               omega
              obtain⟨hva,hhva⟩:∃ x,hw.getD a 0=x:=⟨_,rfl⟩
              rw[hhva] at zc hnl
              clear hcv v1 v2 RD hhva
              cases ov with
              | false =>
               clear hnl
               go_wp2
               go_roundw
               case rel=>exact⟨a+1,by go_num,by omega,⟨⟨_,K9.out,O9.out,by rw[List.length_set];exact U3.out,P9.out⟩⟩⟩
               case measure=>simp[intOf];omega
              | true =>
               have d9:decide (cv < hva)=false:=decide_eq_false (hnl rfl)
               clear hnl
               go_wp2
               go_roundw
               case rel=>exact⟨a+1,by go_num,by omega,⟨⟨_,K9.out,O9.out,by rw[List.length_set];exact U3.out,P9.out⟩⟩⟩
               case measure=>simp[intOf];omega
         ·have hin:a=ps.length:=by omega
          subst hin
          have hfin:hw=hadL (runL c (l.take (k+1))).1:=by
           rw[SN1.out]
           unfold hadL
           refine List.ext_getElem ?_ fun j h1 h2=>?_
           ·rw[u3,List.length_map,<- Q8.out.len];exact HPL.out.symm
           ·have h3:=u4 j (by rw[<- u3];exact h1)
            rw[if_pos (by rw[HPL.out,<- u3];exact h1),List.getD_eq_getElem?_getD,List.getElem?_eq_getElem h1,Option.getD_some] at h3
            rw[List.length_map] at h2
            rw[h3,List.getElem_map,List.getD_eq_getElem?_getD,List.getElem?_eq_getElem h2,Option.getD_some]
          have E9:=AS (show TopI c (runL c (l.take (k+1))).1 b (fun x=>x=w.heap.size∨x=gh) w wr/\OwnE intE (.slice (some ⟨gh,0,none⟩) (hadL (runL c (l.take (k+1))).1).length cp) (hadL (runL c (l.take (k+1))).1) wr/\(hadL (runL c (l.take (k+1))).1).length=i/\wr.heap[w.heap.size]?=some (.cells #[.int .i64 c.nodes,.int .i64 c.blocks,.int .i64 c.tokens,.int .i64 c.sets,.int .i64 c.ways,.int .i64 c.cap,.int .i64 c.wait,.int .i64 c.tries,.int .i64 c.policy] 23 (0,0)) from by
           rw[<- hfin]
           refine⟨?_,u2,u3,u1.at_ X8.out HNG.out.2⟩
           rw[SN1.out]
           exact T8.out.turn u1 (fun x e=>by
            have e':x=gh:=e
            exact⟨.inr e',by rw[e'];exact Nat.le_trans ZN.out GW.out⟩))
          clear u1 u2 u3 u4 hfin
          go_wp2
          go_roundw
          case rel=>exact⟨k+1,by go_num,by omega,E9⟩
          case measure=>simp[intOf];omega
     ·have B9:=AS r1.out
      clear r1 r2 r3 r4
      go_wp2
      go_ret
      exact⟨rfl,B9.out⟩
end Go.Proofs.YtiebppkhaiofeaaGreat.K
