/- Part of the proof of TopStarver: what functions of the program do. -/
import Derived.Test.YtiebppkhaiofeaaGreatS45
set_option maxHeartbeats 4000000
set_option maxRecDepth 100000
set_option linter.unusedVariables false
set_option linter.unusedSimpArgs false
namespace Go.Proofs.YtiebppkhaiofeaaGreat.K
open Go.RowKit Go.Proofs.YtiebppkhaiofeaaGreatW.PrintWords Go.Proofs.YtiebppkhaiofeaaGreat.S
attribute [local go_sem] World.cell?_alloc_some
open Go.ChangeMaps Go.MapKept
theorem CntAt.bump2 {cs:List Int} {g j:Nat} {w:Go.World} {v:Int} (h:CntAt cs g w) (hv:v=wrap64 (cs.getD j 0+1)):CntAt (K.bump cs j) g (w.setCell ⟨g,j,none⟩ (.int .i64 v)):=by
 rw[hv];exact h.bump
theorem entry_any {cs:List Int} {g:Nat} {was now:List Let} {A A':Option Addr} {cp cp':Nat} {w:Go.World} (hC:CntAt cs g w) (hW:OwnE letE (.slice A was.length cp) was w) (hN:OwnE letE (.slice A' now.length cp') now w) (hg:g∉foot (.slice A was.length cp)/\g∉foot (.slice A' now.length cp')) (k_ a_ b_ c_ d_:Int) (h2:k_=2->0≤a_/\a_ < was.length) (hl:was.length≤1000000/\now.length≤1000000) (hn:was.length - (kindsN cs ⟨k_,a_,b_,c_,d_⟩ was).2≤now.length/\(kindsN cs ⟨k_,a_,b_,c_,d_⟩ was).2≤was.length):Calls Tryz.prog 42 #[.pointer (some ⟨g,0,none⟩),.agg #[.int .i64 k_,.int .i64 a_,.int .i64 b_,.int .i64 c_,.int .i64 d_],.slice A was.length cp,.slice A' now.length cp'] w fun e w'=>e=.returned (.tuple #[])/\CntAt (entryN cs ⟨k_,a_,b_,c_,d_⟩ was now) g w'/\KS (fun x=>x=g) w w':=by
 obtain⟨A9,c9,e9,-,hcap,hcap2,-⟩:=hN.row
 injection e9 with e1 e2 e3
 subst e1 e3
 have CA:=AS (hC.below (below_alloc (Below.refl w.heap.size w) (.cells #[.int .i64 k_,.int .i64 a_,.int .i64 b_,.int .i64 c_,.int .i64 d_] 33)))
 have KA:=AS (KS.below (fun x=>x=g) (below_alloc (Below.refl w.heap.size w) (.cells #[.int .i64 k_,.int .i64 a_,.int .i64 b_,.int .i64 c_,.int .i64 d_] 33)))
 have OW:=AS (hW.ks KA.out (fun x hx e=>hg.1 (e ▸ hx)))
 have ON:=AS hN
 have HG:=AS hg
 have HGL:=AS hC.lt
 have c3_:=CA.out.cell (j:=3) (by decide)
 have c4_:=CA.out.cell (j:=4) (by decide)
 have z3_:=CA.out.frozen (j:=3)
 have z4_:=CA.out.frozen (j:=4)
 obtain⟨R,hR⟩:∃ R,R=entryN cs ⟨k_,a_,b_,c_,d_⟩ was now:=⟨_,rfl⟩
 rw[<- hR]
 have HR:=AS hR
 clear hC hW hN hg hR
 go_enter Tryz.func42,Tryz.ntmps42
 go_upto_block 0 with fail
 go_cut [8] (fun v8 wx=>∃ (cs1:List Int) (less:Nat),v8=.int .i64 less/\kindsN cs ⟨k_,a_,b_,c_,d_⟩ was=(cs1,less)/\CntAt cs1 g wx/\KS (fun x=>x=g) w wx)
 case rest =>
  obtain⟨cs1,less,rfl,hkk,hC1,hK1⟩:=hcut
  rw[hkk] at hn
  simp only at hn
  have hR:=HR.out
  unfold entryN at hR
  rw[hkk] at hR
  simp only at hR
  have C1:=AS hC1
  have K1:=AS hK1
  obtain⟨D,hD⟩:∃ D,D=was.length - less:=⟨_,rfl⟩
  have hDi:(was.length:Int) - (less:Int)=(D:Int):=by omega
  have q1:(D:Int)≤(now.length:Int):=by omega
  have q2:(now.length:Int)≤(cp':Int):=by omega
  rw[<- hD] at hR
  have HR1:=AS hR
  have HD:=AS hD
  have HKK:=AS hkk
  clear hC1 hK1 hD hkk c3_ c4_ z3_ z4_ h2 hR HR
  have R0:=AS (show ∃ cs2,CntAt cs2 g wc/\KS (fun x=>x=g) w wc/\sentN cs2 (now.drop (D+0))=R from⟨cs1,C1.out,K1.out,HR1.out.symm⟩)
  obtain⟨n,hn2⟩:∃ n,now.length=D+n:=⟨now.length - D,by omega⟩
  have hni:((now.length:Int) - (D:Int))=(n:Int):=by omega
  by_cases hn0:n=0
  ·go_wp2
   all_goals
    go_loopw [10,55] (fun v10 v55 wr=>∃ i:Nat,v55=.int .i64 i/\i≤n/\Aside0 (∃ cs2,CntAt cs2 g wr/\KS (fun x=>x=g) w wr/\sentN cs2 (now.drop (D+i))=R)) (fun _ v55 _=>n+1 - (intOf v55).toNat)
    case atStart=>exact⟨0,rfl,by omega,R0⟩
    case round =>
     obtain⟨i,rfl,hi,RL⟩:=hrel
     by_cases hcc:i < n
     ·exact absurd hcc (by omega)
     ·have hin:i=n:=by omega
      subst hin
      obtain⟨cs2,r1,r2,r3⟩:=RL.out
      have E1:=AS (And.intro r1 r2)
      rw[<- hn2,List.drop_length] at r3
      have E2:=AS (show R=cs2 from r3.symm)
      clear r1 r2 r3
      go_wp2
      refine bodyPost_end (v:=.tuple #[]) (by simp[results,Tryz.results42,go_sem]) rfl ?_
      rw[E2.out]
      exact⟨rfl,E1.out⟩
  ·obtain⟨gl,cl,e,-,hcl,-,-⟩:=own_some ON.out (show D < now.length by omega)
   injection e with e1 e2 e3
   subst e1 e3
   have hcl2:cp'≠D:=by omega
   have hcl3:¬ ((cp':Int)=(D:Int)):=by omega
   have q3:(D:Int) < (cp':Int):=by omega
   go_wp2
   go_loopw [10,55] (fun v10 v55 wr=>∃ i:Nat,v55=.int .i64 i/\i≤n/\Aside0 (∃ cs2,CntAt cs2 g wr/\KS (fun x=>x=g) w wr/\sentN cs2 (now.drop (D+i))=R)) (fun _ v55 _=>n+1 - (intOf v55).toNat)
   case atStart=>exact⟨0,rfl,by omega,R0⟩
   case round =>
    obtain⟨i,rfl,hi,RL⟩:=hrel
    by_cases hcc:i < n
    ·obtain⟨cs2,r1,r2,r3⟩:=RL.out
     have OR:=AS (ON.out.ks r2 (fun x hx e=>HG.out.2 (e ▸ hx)))
     have hin2:D+i < now.length:=by omega
     obtain⟨gl2,cl2,e,-,-,hgl,hcell⟩:=own_some OR.out hin2
     injection e with e1 e2 e3
     injection e1 with e1
     injection e1 with e1 _ _
     subst e1
     have hDi:D * 11+i * 11=(D+i) * 11:=by omega
     have m0:wr.cell? ⟨gl,D * 11+i * 11,none⟩=some (.int .i64 (now.getD (D+i) let0).kind):=by rw[hDi];exact(hcell 0 (by decide)).trans rfl
     have m1:wr.cell? ⟨gl,D * 11+i * 11+1,none⟩=some (.int .i64 (now.getD (D+i) let0).src):=by rw[hDi];exact(hcell 1 (by decide)).trans rfl
     have m2:wr.cell? ⟨gl,D * 11+i * 11+2,none⟩=some (.int .i64 (now.getD (D+i) let0).dst):=by rw[hDi];exact(hcell 2 (by decide)).trans rfl
     have m3:wr.cell? ⟨gl,D * 11+i * 11+3,none⟩=some (.int .i64 (now.getD (D+i) let0).block):=by rw[hDi];exact(hcell 3 (by decide)).trans rfl
     have m4:wr.cell? ⟨gl,D * 11+i * 11+4,none⟩=some (.int .i64 (now.getD (D+i) let0).seq):=by rw[hDi];exact(hcell 4 (by decide)).trans rfl
     have m5:wr.cell? ⟨gl,D * 11+i * 11+5,none⟩=some (.int .i64 (now.getD (D+i) let0).who):=by rw[hDi];exact(hcell 5 (by decide)).trans rfl
     have m6:wr.cell? ⟨gl,D * 11+i * 11+6,none⟩=some (.bool (now.getD (D+i) let0).write):=by rw[hDi];exact(hcell 6 (by decide)).trans rfl
     have m7:wr.cell? ⟨gl,D * 11+i * 11+7,none⟩=some (.int .i64 (now.getD (D+i) let0).bun.count):=by rw[hDi];exact(hcell 7 (by decide)).trans rfl
     have m8:wr.cell? ⟨gl,D * 11+i * 11+8,none⟩=some (.bool (now.getD (D+i) let0).bun.owner):=by rw[hDi];exact(hcell 8 (by decide)).trans rfl
     have m9:wr.cell? ⟨gl,D * 11+i * 11+9,none⟩=some (.bool (now.getD (D+i) let0).bun.has):=by rw[hDi];exact(hcell 9 (by decide)).trans rfl
     have m10:wr.cell? ⟨gl,D * 11+i * 11+10,none⟩=some (.int .i64 (now.getD (D+i) let0).bun.data):=by rw[hDi];exact(hcell 10 (by decide)).trans rfl
     have hdr:now.drop (D+i)=now.getD (D+i) let0 :: now.drop (D+(i+1)):=by rw[List.drop_eq_getElem_cons hin2,List.getD_eq_getElem?_getD,List.getElem?_eq_getElem hin2,Option.getD_some];rfl
     rw[hdr] at r3
     obtain⟨x,hx⟩:∃ x,now.getD (D+i) let0=x:=⟨_,rfl⟩
     rw[hx] at r3 m0 m1 m2 m3 m4 m5 m6 m7 m8 m9 m10
     clear hx hcell hdr e2 e3
     obtain⟨k,f,t,b,qq,wh,wr_,⟨c0,oo,hh,dd⟩⟩:=x
     simp only at m0 m1 m2 m3 m4 m5 m6 m7 m8 m9 m10
     have r3:sentN (bump cs2 (7+(kindN k).toNat)) (now.drop (D+(i+1)))=R:=r3
     obtain⟨m,hm⟩:∃ m:Nat,kindN k=m:=⟨(kindN k).toNat,by have:=(kindN_lt k).1;omega⟩
     have hm8:m < 8:=by have:=(kindN_lt k).2;omega
     have qm0:(0:Int)≤(m:Int):=by omega
     have qm1:(m:Int) < 8:=by omega
     have ST:=AS (fun W'=>kind_any k f t b qq wh wr_ c0 oo hh dd W')
     rw[hm] at ST
     have HM:=AS (show(kindN k).toNat=m by omega)
     clear hm
     rw[HM.out] at r3
     have RR:=AS r3
     have qi0:(0:Int)≤(i:Int):=by omega
     have qi1:(i:Int) < (n:Int):=by omega
     have XB:=AS (blk_new wr (.cells #[.int .i64 k,.int .i64 f,.int .i64 t,.int .i64 b,.int .i64 qq,.int .i64 wh,.bool wr_,.int .i64 c0,.bool oo,.bool hh,.int .i64 dd] 47))
     have CB:=AS (r1.below (below_alloc (Below.refl wr.heap.size wr) (.cells #[.int .i64 k,.int .i64 f,.int .i64 t,.int .i64 b,.int .i64 qq,.int .i64 wh,.bool wr_,.int .i64 c0,.bool oo,.bool hh,.int .i64 dd] 47)))
     have KB:=AS (r2.trans (KS.below (fun x=>x=g) (below_alloc (Below.refl wr.heap.size wr) (.cells #[.int .i64 k,.int .i64 f,.int .i64 t,.int .i64 b,.int .i64 qq,.int .i64 wh,.bool wr_,.int .i64 c0,.bool oo,.bool hh,.int .i64 dd] 47))) (fun x _ h=>h))
     clear r1 r2 r3 hDi
     go_upto_region 14 with fail
     generalize wr.heap.size=bx at *
     generalize wr.alloc (.cells #[.int .i64 k,.int .i64 f,.int .i64 t,.int .i64 b,.int .i64 qq,.int .i64 wh,.bool wr_,.int .i64 c0,.bool oo,.bool hh,.int .i64 dd] 47)=W at XB CB KB ⊢
     have hgx:¬ bx=g:=fun e=>by
      have h:=XB.out
      rw[e,CB.out.1] at h
      simp at h
     have KEEP:=AS (show ∀ x,KS (fun y=>y=g) W x->(x.cell? ⟨bx,0,none⟩=some (.int .i64 k)/\x.cell? ⟨bx,1,none⟩=some (.int .i64 f)/\x.cell? ⟨bx,2,none⟩=some (.int .i64 t)/\x.cell? ⟨bx,3,none⟩=some (.int .i64 b)/\x.cell? ⟨bx,4,none⟩=some (.int .i64 qq)/\x.cell? ⟨bx,5,none⟩=some (.int .i64 wh)/\x.cell? ⟨bx,6,none⟩=some (.bool wr_)/\x.cell? ⟨bx,7,none⟩=some (.int .i64 c0)/\x.cell? ⟨bx,8,none⟩=some (.bool oo)/\x.cell? ⟨bx,9,none⟩=some (.bool hh)/\x.cell? ⟨bx,10,none⟩=some (.int .i64 dd)) from fun x hb=>⟨cw (hb.at_ XB.out hgx) 0,cw (hb.at_ XB.out hgx) 1,cw (hb.at_ XB.out hgx) 2,cw (hb.at_ XB.out hgx) 3,cw (hb.at_ XB.out hgx) 4,cw (hb.at_ XB.out hgx) 5,cw (hb.at_ XB.out hgx) 6,cw (hb.at_ XB.out hgx) 7,cw (hb.at_ XB.out hgx) 8,cw (hb.at_ XB.out hgx) 9,cw (hb.at_ XB.out hgx) 10⟩)
     obtain⟨u0,u1,u2,u3,u4,u5,u6,u7,u8,u9,u10⟩:=KEEP.out W (KS.refl _ _)
     go_region_with ((go_at_call 71;refine(ST.out _).mono ?_;rintro e w3 ⟨rfl,hb3⟩;have B3:=AS (show Below W.heap.size W w3 from(Below.drew (Below.refl _ _)).trans (hb3.mono (Nat.le_refl _)));have z7:w3.frozen? ⟨g,7+m,none⟩=false:=(CB.out.below B3.out).frozen;have c7:w3.cell? ⟨g,7+m,none⟩=some (.int .i64 (cs2.getD (7+m) 0)):=(CB.out.below B3.out).cell (by omega);have K3:=AS (KS.below (fun y=>y=g) B3.out);clear hb3))
     all_goals
      go_wp2
      go_roundw
      case rel=>exact⟨i+1,by go_num,by omega,⟨⟨_,(CB.out.below B3.out).bump,(KB.out.trans (KS.below (fun x=>x=g) B3.out) (fun x _ h=>h)).set (.inl rfl) _ _,RR.out⟩⟩⟩
      case measure=>simp[intOf];omega
    ·have hin:i=n:=by omega
     subst hin
     obtain⟨cs2,r1,r2,r3⟩:=RL.out
     have E1:=AS (And.intro r1 r2)
     rw[<- hn2,List.drop_length] at r3
     have E2:=AS (show R=cs2 from r3.symm)
     clear r1 r2 r3
     go_wp2
     refine bodyPost_end (v:=.tuple #[]) (by simp[results,Tryz.results42,go_sem]) rfl ?_
     rw[E2.out]
     exact⟨rfl,E1.out⟩
 all_goals
  by_cases k4:k_=4
  ·have d4:(k_ == 4)=true:=by simp[k4]
   have K4:=AS k4
   clear k4
   go_wp2_with fail
   go_meet
   exact⟨bump cs 3,0,rfl,by unfold kindsN;rw[if_pos K4.out],CA.out.bump,KA.out.set (.inl rfl) _ _⟩
  by_cases k3:k_=3
  ·have d4:(k_ == 4)=false:=by simp[k4]
   have d3:(k_ == 3)=true:=by simp[k3]
   have K3:=AS k3
   clear k3
   go_wp2_with fail
   go_meet
   exact⟨bump cs 4,1,rfl,by unfold kindsN;rw[if_neg k4,if_pos K3.out],CA.out.bump,KA.out.set (.inl rfl) _ _⟩
  by_cases k2:k_=2
  ·obtain⟨h20,h21⟩:=h2 k2
   obtain⟨an,han⟩:∃ an:Nat,a_=an:=⟨a_.toNat,by omega⟩
   subst han
   have hlt:an < was.length:=by omega
   obtain⟨gl,cl,e,-,-,hgl,hcell⟩:=own_some OW.out hlt
   injection e with e1 e2 e3
   subst e1 e3
   have m0:(w.alloc (.cells #[.int .i64 k_,.int .i64 an,.int .i64 b_,.int .i64 c_,.int .i64 d_] 33)).cell? ⟨gl,an * 11,none⟩=some (.int .i64 (was.getD an let0).kind):=(hcell 0 (by decide)).trans rfl
   have m1:(w.alloc (.cells #[.int .i64 k_,.int .i64 an,.int .i64 b_,.int .i64 c_,.int .i64 d_] 33)).cell? ⟨gl,an * 11+1,none⟩=some (.int .i64 (was.getD an let0).src):=(hcell 1 (by decide)).trans rfl
   have m2:(w.alloc (.cells #[.int .i64 k_,.int .i64 an,.int .i64 b_,.int .i64 c_,.int .i64 d_] 33)).cell? ⟨gl,an * 11+2,none⟩=some (.int .i64 (was.getD an let0).dst):=(hcell 2 (by decide)).trans rfl
   have m3:(w.alloc (.cells #[.int .i64 k_,.int .i64 an,.int .i64 b_,.int .i64 c_,.int .i64 d_] 33)).cell? ⟨gl,an * 11+3,none⟩=some (.int .i64 (was.getD an let0).block):=(hcell 3 (by decide)).trans rfl
   have m4:(w.alloc (.cells #[.int .i64 k_,.int .i64 an,.int .i64 b_,.int .i64 c_,.int .i64 d_] 33)).cell? ⟨gl,an * 11+4,none⟩=some (.int .i64 (was.getD an let0).seq):=(hcell 4 (by decide)).trans rfl
   have m5:(w.alloc (.cells #[.int .i64 k_,.int .i64 an,.int .i64 b_,.int .i64 c_,.int .i64 d_] 33)).cell? ⟨gl,an * 11+5,none⟩=some (.int .i64 (was.getD an let0).who):=(hcell 5 (by decide)).trans rfl
   have m6:(w.alloc (.cells #[.int .i64 k_,.int .i64 an,.int .i64 b_,.int .i64 c_,.int .i64 d_] 33)).cell? ⟨gl,an * 11+6,none⟩=some (.bool (was.getD an let0).write):=(hcell 6 (by decide)).trans rfl
   have m7:(w.alloc (.cells #[.int .i64 k_,.int .i64 an,.int .i64 b_,.int .i64 c_,.int .i64 d_] 33)).cell? ⟨gl,an * 11+7,none⟩=some (.int .i64 (was.getD an let0).bun.count):=(hcell 7 (by decide)).trans rfl
   have m8:(w.alloc (.cells #[.int .i64 k_,.int .i64 an,.int .i64 b_,.int .i64 c_,.int .i64 d_] 33)).cell? ⟨gl,an * 11+8,none⟩=some (.bool (was.getD an let0).bun.owner):=(hcell 8 (by decide)).trans rfl
   have m9:(w.alloc (.cells #[.int .i64 k_,.int .i64 an,.int .i64 b_,.int .i64 c_,.int .i64 d_] 33)).cell? ⟨gl,an * 11+9,none⟩=some (.bool (was.getD an let0).bun.has):=(hcell 9 (by decide)).trans rfl
   have m10:(w.alloc (.cells #[.int .i64 k_,.int .i64 an,.int .i64 b_,.int .i64 c_,.int .i64 d_] 33)).cell? ⟨gl,an * 11+10,none⟩=some (.int .i64 (was.getD an let0).bun.data):=(hcell 10 (by decide)).trans rfl
   obtain⟨x,hx⟩:∃ x,was.getD an let0=x:=⟨_,rfl⟩
   rw[hx] at m0 m1 m2 m3 m4 m5 m6 m7 m8 m9 m10
   have HX:=AS hx
   clear hx hcell
   obtain⟨k,f,t,b,qq,wh,wr_,⟨c0,oo,hh,dd⟩⟩:=x
   simp only at m0 m1 m2 m3 m4 m5 m6 m7 m8 m9 m10
   obtain⟨m,hm⟩:∃ m:Nat,kindN k=m:=⟨(kindN k).toNat,by have:=(kindN_lt k).1;omega⟩
   have hm8:m < 8:=by have:=(kindN_lt k).2;omega
   have qm0:(0:Int)≤(m:Int):=by omega
   have qm1:(m:Int) < 8:=by omega
   have ST:=AS (fun W'=>kind_any k f t b qq wh wr_ c0 oo hh dd W')
   rw[hm] at ST
   have HM:=AS (show(kindN k).toNat=m by omega)
   clear hm
   have x1:(w.alloc (.cells #[.int .i64 k_,.int .i64 an,.int .i64 b_,.int .i64 c_,.int .i64 d_] 33)).cell? ⟨w.heap.size,1,none⟩=some (.int .i64 an):=cw (blk_new w _) 1
   have d4:(k_ == 4)=false:=by simp[k4]
   have d3:(k_ == 3)=false:=by simp[k3]
   have d2:(k_ == 2)=true:=by simp[k2]
   have K2:=AS k2
   clear k2
   have hsz0:(w.alloc (.cells #[.int .i64 k_,.int .i64 an,.int .i64 b_,.int .i64 c_,.int .i64 d_] 33)).heap.size=w.heap.size+1:=by simp
   have qa0:(0:Int)≤(an:Int):=by omega
   have qa1:(an:Int) < (was.length:Int):=by omega
   go_upto_region 9 with fail
   generalize w.alloc (.cells #[.int .i64 k_,.int .i64 an,.int .i64 b_,.int .i64 c_,.int .i64 d_] 33)=W at *
   have hx2:w.heap.size < W.heap.size:=by omega
   have hgx:¬ w.heap.size=g:=fun e=>by have:=HGL.out;omega
   have hgg:¬ gl=g:=fun e=>HG.out.1 (by rw[<- e];simp[foot_slice])
   have KEEP:=AS (show ∀ x,KS (fun y=>y=g) W x->(x.cell? ⟨w.heap.size,1,none⟩=some (.int .i64 an)/\x.cell? ⟨gl,an * 11,none⟩=some (.int .i64 k)/\x.cell? ⟨gl,an * 11+1,none⟩=some (.int .i64 f)/\x.cell? ⟨gl,an * 11+2,none⟩=some (.int .i64 t)/\x.cell? ⟨gl,an * 11+3,none⟩=some (.int .i64 b)/\x.cell? ⟨gl,an * 11+4,none⟩=some (.int .i64 qq)/\x.cell? ⟨gl,an * 11+5,none⟩=some (.int .i64 wh)/\x.cell? ⟨gl,an * 11+6,none⟩=some (.bool wr_)/\x.cell? ⟨gl,an * 11+7,none⟩=some (.int .i64 c0)/\x.cell? ⟨gl,an * 11+8,none⟩=some (.bool oo)/\x.cell? ⟨gl,an * 11+9,none⟩=some (.bool hh)/\x.cell? ⟨gl,an * 11+10,none⟩=some (.int .i64 dd)) from fun x hb=>⟨(ks_cell hb hx2 hgx).trans x1,(ks_cell hb hgl hgg).trans m0,(ks_cell hb hgl hgg).trans m1,(ks_cell hb hgl hgg).trans m2,(ks_cell hb hgl hgg).trans m3,(ks_cell hb hgl hgg).trans m4,(ks_cell hb hgl hgg).trans m5,(ks_cell hb hgl hgg).trans m6,(ks_cell hb hgl hgg).trans m7,(ks_cell hb hgl hgg).trans m8,(ks_cell hb hgl hgg).trans m9,(ks_cell hb hgl hgg).trans m10⟩)
   go_region_with ((go_at_call 71;refine(ST.out _).mono ?_;rintro e w3 ⟨rfl,hb3⟩;have B3:=AS (show Below W.heap.size W w3 from(Below.drew (Below.refl _ _)).trans (hb3.mono (Nat.le_refl _)));have z15:w3.frozen? ⟨g,15+m,none⟩=false:=(CA.out.below B3.out).frozen;have c15:w3.cell? ⟨g,15+m,none⟩=some (.int .i64 (cs.getD (15+m) 0)):=(CA.out.below B3.out).cell (by omega);have K3:=AS (KS.below (fun y=>y=g) B3.out);clear hb3))
   all_goals
    go_wp2_with fail
    go_meet
    exact⟨bump cs (15+m),1,rfl,by unfold kindsN;rw[if_neg k4,if_neg k3,if_pos K2.out];simp only[Int.toNat_natCast];rw[show letE.d=let0 from rfl,HX.out,HM.out],CntAt.bump2 (j:=15+m) (CA.out.below B3.out) (by rw[List.getD_eq_getElem?_getD,IntKind.wrap_i64,wrap64]),(KA.out.trans (KS.below (fun x=>x=g) B3.out) (fun x _ h=>h)).set (.inl rfl) _ _⟩
  have d4:(k_ == 4)=false:=by simp[k4]
  have d3:(k_ == 3)=false:=by simp[k3]
  have d2:(k_ == 2)=false:=by simp[k2]
  go_wp2_with fail
  go_meet
  exact⟨cs,0,rfl,by unfold kindsN;rw[if_neg k4,if_neg k3,if_neg k2],CA.out,KA.out⟩
end Go.Proofs.YtiebppkhaiofeaaGreat.K
