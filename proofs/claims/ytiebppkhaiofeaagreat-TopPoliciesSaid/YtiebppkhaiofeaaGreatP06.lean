/- Part of the proof of TopPolicies: what functions of the program do. -/
import Derived.Test.YtiebppkhaiofeaaGreatP05
import Derived.Test.YtiebppkhaiofeaaGreatP00
set_option maxHeartbeats 4000000
set_option maxRecDepth 100000
set_option linter.unusedVariables false
set_option linter.unusedSimpArgs false
open Go.IntKind renaming i64→I
open Go.Value renaming slice→J, int→V, bool→aA, pointer→bA
open Option renaming some→M, none→U
open Go.Obj renaming cells→O
open Go.ChangeMaps renaming setBlock→aB
open Go renaming Calls→bB, World→cA
open Go.Proofs.Tryz renaming prog→dA
open Go.Proofs.YtiebppkhaiofeaaGreatW.PrintWords renaming below_alloc→eA, blk_lt→eB, blk_drew→fB, blk_frozen→jA, blk_below→kA, blk_alloc→lA, blk_set→mA, blk_new→nA
open Go.RowKit.Below renaming refl→fA, drew→iA
open Go.Proofs.YtiebppkhaiofeaaGreat.K renaming rec_old→jB
open Nat renaming le_refl→pA
open Go.Proofs.YtiebppkhaiofeaaGreat.K.KS renaming below→pB, refl→qB, drew→sB
open And renaming intro→qA
namespace Go.Proofs.YtiebppkhaiofeaaGreat.K
open Go.RowKit Go.Proofs.YtiebppkhaiofeaaGreatW.PrintWords Go.Proofs.YtiebppkhaiofeaaGreat.S
attribute [local go_sem] World.cell?_alloc_some
theorem eqA45 (d:Nat) (w:cA) (c1 c2 d1 d2:Int) (o1 o2 h1 h2:Bool) :
  (Go.Op.equalIn (d+2) 45 (.agg #[V I c1,aA o1,aA h1,V I d1]) (.agg #[V I c2,aA o2,aA h2,V I d2])).run dA w=.ok (c1 == c2 && (o1 == o2 && (h1 == h2 && (d1 == d2)))) w:=by
 refine eqA_of Tryz.underlying45 xB ?_
 refine eqf_cons (by rfl) (by go_simp;rfl) (by go_simp;rfl) (by go_simp) ?_
 refine eqf_cons (by rfl) (by go_simp;rfl) (by go_simp;rfl) (by go_simp) ?_
 refine eqf_cons (by rfl) (by go_simp;rfl) (by go_simp;rfl) (by go_simp) ?_
 exact eqf_last (by rfl) (by go_simp;rfl) (by go_simp;rfl) (by go_simp)
theorem neq45 (w:cA) (c1 c2 d1 d2:Int) (o1 o2 h1 h2:Bool) :
  (binOp .neq 45 (.agg #[V I c1,aA o1,aA h1,V I d1]) (.agg #[V I c2,aA o2,aA h2,V I d2])).run dA w=.ok (aA (!(c1 == c2 && (o1 == o2 && (h1 == h2 && (d1 == d2)))))) w:=by
 rw[run_neq_struct,eqA45 9998]
 rfl
def chk5 (c:Cfg) (l:Let) (tk:Bool):Int:=if tk=false then (if l.bun.count=0/\l.bun.owner=false/\l.bun.has=false/\l.bun.data=0 then 0 else 6) else if l.bun.check c.tokens≠0∨l.bun.count > 0 then l.bun.check c.tokens else 4
theorem check_eq (c:Cfg) (l:Let) (r:KRow) (hr:rowsK l.kind=r) (hk:¬ (l.kind < 1∨l.kind > 7)) (hb:¬ (l.block < 0∨l.block≥c.blocks)):l.check c=if l.src=l.dst then 8 else if endOk c l.src r.fromHome r.fromNode=false then 8 else if endOk c l.dst r.toHome r.toNode=false then 8 else if formOk c l r=false then 10 else chk5 c l r.tokens:=by
 subst hr
 unfold Let.check chk5
 rw[if_neg hk,if_neg hb]
 by_cases h1:l.src=l.dst
 ·simp[h1]
 ·by_cases h2:endOk c l.src (rowsK l.kind).fromHome (rowsK l.kind).fromNode=false
  ·simp[h1,h2]
  ·by_cases h3:endOk c l.dst (rowsK l.kind).toHome (rowsK l.kind).toNode=false
   ·simp[h1,h2,h3]
   ·simp[h1,h2,h3]
theorem lcheck_any (c:Cfg) (l:Let) (w:cA):bB dA 86 #[cfgV c,letV l] w (RV (V I (l.check c)) w):=by
 obtain⟨nn,b,t,se,wa,ca,wt,tr,po⟩:=c
 obtain⟨k,f,dd,bl,q,wh,wr,⟨ct,ow,ha,da⟩⟩:=l
 generalize hv:Let.check ⟨nn,b,t,se,wa,ca,wt,tr,po⟩ ⟨k,f,dd,bl,q,wh,wr,⟨ct,ow,ha,da⟩⟩=v
 simp only[cfgV,letV]
 have B0:=AS (eA (eA (fA w.heap.size w) (O #[V I nn,V I b,V I t,V I se,V I wa,V I ca,V I wt,V I tr,V I po] 23)) (O #[V I k,V I f,V I dd,V I bl,V I q,V I wh,aA wr,V I ct,aA ow,aA ha,V I da] 47))
 have X0:=AS (show((w.alloc (O #[V I nn,V I b,V I t,V I se,V I wa,V I ca,V I wt,V I tr,V I po] 23)).alloc (O #[V I k,V I f,V I dd,V I bl,V I q,V I wh,aA wr,V I ct,aA ow,aA ha,V I da] 47)).heap[w.heap.size]?=M (O #[V I nn,V I b,V I t,V I se,V I wa,V I ca,V I wt,V I tr,V I po] 23)/\((w.alloc (O #[V I nn,V I b,V I t,V I se,V I wa,V I ca,V I wt,V I tr,V I po] 23)).alloc (O #[V I k,V I f,V I dd,V I bl,V I q,V I wh,aA wr,V I ct,aA ow,aA ha,V I da] 47)).heap[w.heap.size+1]?=M (O #[V I k,V I f,V I dd,V I bl,V I q,V I wh,aA wr,V I ct,aA ow,aA ha,V I da] 47) from⟨lA (nA w _) _,by have:=nA (w.alloc (O #[V I nn,V I b,V I t,V I se,V I wa,V I ca,V I wt,V I tr,V I po] 23)) (O #[V I k,V I f,V I dd,V I bl,V I q,V I wh,aA wr,V I ct,aA ow,aA ha,V I da] 47);simpa using this⟩)
 by_cases h1:k < 1∨k > 7
 ·have KV:=AS (show v=7 by rw[<- hv];exact if_pos h1)
  have HR:=AS (show rowsV k=.tuple #[.agg #[aA false,aA false,aA false,aA false,aA false,aA false,aA false,aA false],aA false] from if_pos h1)
  clear h1 hv
  go_enter Tryz.func86,Tryz.ntmps86
  go_upto_region 1 with fail
  generalize ((w.alloc (O #[V I nn,V I b,V I t,V I se,V I wa,V I ca,V I wt,V I tr,V I po] 23)).alloc (O #[V I k,V I f,V I dd,V I bl,V I q,V I wh,aA wr,V I ct,aA ow,aA ha,V I da] 47))=W at B0 X0 ⊢
  have l0:=cw X0.out.2 0 (v:=V I k)
  go_wp2_with fail
  refine(rows_any k _).mono ?_
  rintro e w1 ⟨rfl,hb⟩
  rw[HR.out]
  have B1:=AS (B0.out.trans (hb.mono B0.out.size))
  clear hb
  go_wp2
  go_ret
  exact RV.of (by rw[KV.out];rfl) (eA B1.out _)
 ·have HR:=AS (show rowsV k=.tuple #[krowV (rowsK k),aA true] from if_neg h1)
  generalize hr:rowsK k=r at HR
  have CE:=AS (fun hb=>check_eq ⟨nn,b,t,se,wa,ca,wt,tr,po⟩ ⟨k,f,dd,bl,q,wh,wr,⟨ct,ow,ha,da⟩⟩ r hr h1 hb)
  obtain⟨r1,r2,r3,r4,r5,r6,r7,r8⟩:=r
  simp only[krowV] at HR
  go_enter Tryz.func86,Tryz.ntmps86
  go_upto_region 1 with fail
  generalize ((w.alloc (O #[V I nn,V I b,V I t,V I se,V I wa,V I ca,V I wt,V I tr,V I po] 23)).alloc (O #[V I k,V I f,V I dd,V I bl,V I q,V I wh,aA wr,V I ct,aA ow,aA ha,V I da] 47))=W at B0 X0 ⊢
  have l0:=cw X0.out.2 0 (v:=V I k)
  go_wp2_with fail
  refine(rows_any k _).mono ?_
  rintro e w1 ⟨rfl,hb⟩
  rw[HR.out]
  have X2:=AS (show(w1.alloc (O #[aA r1,aA r2,aA r3,aA r4,aA r5,aA r6,aA r7,aA r8] 228)).heap[w.heap.size]?=M (O #[V I nn,V I b,V I t,V I se,V I wa,V I ca,V I wt,V I tr,V I po] 23)/\(w1.alloc (O #[aA r1,aA r2,aA r3,aA r4,aA r5,aA r6,aA r7,aA r8] 228)).heap[w.heap.size+1]?=M (O #[V I k,V I f,V I dd,V I bl,V I q,V I wh,aA wr,V I ct,aA ow,aA ha,V I da] 47)/\(w1.alloc (O #[aA r1,aA r2,aA r3,aA r4,aA r5,aA r6,aA r7,aA r8] 228)).heap[w1.heap.size]?=M (O #[aA r1,aA r2,aA r3,aA r4,aA r5,aA r6,aA r7,aA r8] 228)/\Below w.heap.size w (w1.alloc (O #[aA r1,aA r2,aA r3,aA r4,aA r5,aA r6,aA r7,aA r8] 228)) from⟨lA (kA X0.out.1 hb) _,lA (kA X0.out.2 hb) _,nA w1 _,eA (B0.out.trans (hb.mono B0.out.size)) _⟩)
  have HK1:=AS h1
  clear hb l0 h1
  go_upto_region 2 with fail
  generalize w1.heap.size=g3 at X2 ⊢
  generalize w1.alloc (O #[aA r1,aA r2,aA r3,aA r4,aA r5,aA r6,aA r7,aA r8] 228)=w2 at X2 ⊢
  clear HR X0 B0
  have c0:=cw X2.out.1 0 (v:=V I nn)
  have c1:=cw X2.out.1 1 (v:=V I b)
  have c2:=cw X2.out.1 2 (v:=V I t)
  have c3:=cw X2.out.1 3 (v:=V I se)
  have c4:=cw X2.out.1 4 (v:=V I wa)
  have c5:=cw X2.out.1 5 (v:=V I ca)
  have c6:=cw X2.out.1 6 (v:=V I wt)
  have c7:=cw X2.out.1 7 (v:=V I tr)
  have c8:=cw X2.out.1 8 (v:=V I po)
  have l0:=cw X2.out.2.1 0 (v:=V I k)
  have l1:=cw X2.out.2.1 1 (v:=V I f)
  have l2:=cw X2.out.2.1 2 (v:=V I dd)
  have l3:=cw X2.out.2.1 3 (v:=V I bl)
  have l4:=cw X2.out.2.1 4 (v:=V I q)
  have l5:=cw X2.out.2.1 5 (v:=V I wh)
  have l6:=cw X2.out.2.1 6 (v:=aA wr)
  have l7:=cw X2.out.2.1 7 (v:=V I ct)
  have l8:=cw X2.out.2.1 8 (v:=aA ow)
  have l9:=cw X2.out.2.1 9 (v:=aA ha)
  have l10:=cw X2.out.2.1 10 (v:=V I da)
  have r_0:=cw X2.out.2.2.1 0 (v:=aA r1)
  have r_1:=cw X2.out.2.2.1 1 (v:=aA r2)
  have r_2:=cw X2.out.2.2.1 2 (v:=aA r3)
  have r_3:=cw X2.out.2.2.1 3 (v:=aA r4)
  have r_4:=cw X2.out.2.2.1 4 (v:=aA r5)
  have r_5:=cw X2.out.2.2.1 5 (v:=aA r6)
  have r_6:=cw X2.out.2.2.1 6 (v:=aA r7)
  have r_7:=cw X2.out.2.2.1 7 (v:=aA r8)
  by_cases h2:bl < 0∨bl≥b
  ·have KV:=AS (show v=3 by rw[<- hv];unfold Let.check;rw[if_neg HK1.out,if_pos h2])
   by_cases h2a:bl < 0
   ·clear h2
    go_wp2
    go_ret
    exact RV.of (by rw[KV.out];rfl) X2.out.2.2.2
   ·have h2b:bl≥b:=vB
    clear h2
    go_wp2
    go_ret
    exact RV.of (by rw[KV.out];rfl) X2.out.2.2.2
  ·have CE2:=AS (CE.out h2)
   rw[hv] at CE2
   have h2a:¬ bl < 0:=vB
   have h2b:¬ bl≥b:=vB
   clear CE h2 hv
   by_cases h3:f=dd
   ·have KV:=AS (show v=8 by rw[CE2.out];exact if_pos h3)
    have h3b:(f == dd)=true:=by simp[h3]
    clear CE2 h3
    go_wp2
    go_ret
    exact RV.of (by rw[KV.out];rfl) X2.out.2.2.2
   ·have h3b:(f == dd)=false:=by simpa using h3
    have CE3:=AS (CE2.out.trans (if_neg h3))
    clear CE2 h3
    go_wp2_with fail
    refine(endOk_any ⟨nn,b,t,se,wa,ca,wt,tr,po⟩ f r1 r2 _).mono ?_
    rintro e w3 ⟨rfl,hb⟩
    have X3:=AS (show w3.heap[w.heap.size]?=M (O #[V I nn,V I b,V I t,V I se,V I wa,V I ca,V I wt,V I tr,V I po] 23)/\w3.heap[w.heap.size+1]?=M (O #[V I k,V I f,V I dd,V I bl,V I q,V I wh,aA wr,V I ct,aA ow,aA ha,V I da] 47)/\w3.heap[g3]?=M (O #[aA r1,aA r2,aA r3,aA r4,aA r5,aA r6,aA r7,aA r8] 228)/\Below w.heap.size w w3 from⟨kA X2.out.1 hb,kA X2.out.2.1 hb,kA X2.out.2.2.1 hb,X2.out.2.2.2.trans (hb.mono X2.out.2.2.2.size)⟩)
    clear hb
    clear c0 c1 c2 c3 c4 c5 c6 c7 c8 l0 l1 l2 l3 l4 l5 l6 l7 l8 l9 l10 r_0 r_1 r_2 r_3 r_4 r_5 r_6 r_7
    have c0:=cw X3.out.1 0 (v:=V I nn)
    have c1:=cw X3.out.1 1 (v:=V I b)
    have c2:=cw X3.out.1 2 (v:=V I t)
    have c3:=cw X3.out.1 3 (v:=V I se)
    have c4:=cw X3.out.1 4 (v:=V I wa)
    have c5:=cw X3.out.1 5 (v:=V I ca)
    have c6:=cw X3.out.1 6 (v:=V I wt)
    have c7:=cw X3.out.1 7 (v:=V I tr)
    have c8:=cw X3.out.1 8 (v:=V I po)
    have l0:=cw X3.out.2.1 0 (v:=V I k)
    have l1:=cw X3.out.2.1 1 (v:=V I f)
    have l2:=cw X3.out.2.1 2 (v:=V I dd)
    have l3:=cw X3.out.2.1 3 (v:=V I bl)
    have l4:=cw X3.out.2.1 4 (v:=V I q)
    have l5:=cw X3.out.2.1 5 (v:=V I wh)
    have l6:=cw X3.out.2.1 6 (v:=aA wr)
    have l7:=cw X3.out.2.1 7 (v:=V I ct)
    have l8:=cw X3.out.2.1 8 (v:=aA ow)
    have l9:=cw X3.out.2.1 9 (v:=aA ha)
    have l10:=cw X3.out.2.1 10 (v:=V I da)
    have r_0:=cw X3.out.2.2.1 0 (v:=aA r1)
    have r_1:=cw X3.out.2.2.1 1 (v:=aA r2)
    have r_2:=cw X3.out.2.2.1 2 (v:=aA r3)
    have r_3:=cw X3.out.2.2.1 3 (v:=aA r4)
    have r_4:=cw X3.out.2.2.1 4 (v:=aA r5)
    have r_5:=cw X3.out.2.2.1 5 (v:=aA r6)
    have r_6:=cw X3.out.2.2.1 6 (v:=aA r7)
    have r_7:=cw X3.out.2.2.1 7 (v:=aA r8)
    generalize endOk ⟨nn,b,t,se,wa,ca,wt,tr,po⟩ f r1 r2=e1 at *
    cases e1
    ·have KV:=AS (show v=8 by rw[CE3.out];exact if_pos rfl)
     clear CE3
     go_wp2
     go_ret
     exact RV.of (by rw[KV.out];rfl) X3.out.2.2.2
    ·have CE4:=AS (CE3.out.trans (if_neg zB))
     clear CE3
     go_wp2_with fail
     refine(endOk_any ⟨nn,b,t,se,wa,ca,wt,tr,po⟩ dd r3 r4 _).mono ?_
     rintro e w4 ⟨rfl,hb⟩
     have X4:=AS (show w4.heap[w.heap.size]?=M (O #[V I nn,V I b,V I t,V I se,V I wa,V I ca,V I wt,V I tr,V I po] 23)/\w4.heap[w.heap.size+1]?=M (O #[V I k,V I f,V I dd,V I bl,V I q,V I wh,aA wr,V I ct,aA ow,aA ha,V I da] 47)/\w4.heap[g3]?=M (O #[aA r1,aA r2,aA r3,aA r4,aA r5,aA r6,aA r7,aA r8] 228)/\Below w.heap.size w w4 from⟨kA X3.out.1 hb,kA X3.out.2.1 hb,kA X3.out.2.2.1 hb,X3.out.2.2.2.trans (hb.mono X3.out.2.2.2.size)⟩)
     clear hb
     clear c0 c1 c2 c3 c4 c5 c6 c7 c8 l0 l1 l2 l3 l4 l5 l6 l7 l8 l9 l10 r_0 r_1 r_2 r_3 r_4 r_5 r_6 r_7
     have c0:=cw X4.out.1 0 (v:=V I nn)
     have c1:=cw X4.out.1 1 (v:=V I b)
     have c2:=cw X4.out.1 2 (v:=V I t)
     have c3:=cw X4.out.1 3 (v:=V I se)
     have c4:=cw X4.out.1 4 (v:=V I wa)
     have c5:=cw X4.out.1 5 (v:=V I ca)
     have c6:=cw X4.out.1 6 (v:=V I wt)
     have c7:=cw X4.out.1 7 (v:=V I tr)
     have c8:=cw X4.out.1 8 (v:=V I po)
     have l0:=cw X4.out.2.1 0 (v:=V I k)
     have l1:=cw X4.out.2.1 1 (v:=V I f)
     have l2:=cw X4.out.2.1 2 (v:=V I dd)
     have l3:=cw X4.out.2.1 3 (v:=V I bl)
     have l4:=cw X4.out.2.1 4 (v:=V I q)
     have l5:=cw X4.out.2.1 5 (v:=V I wh)
     have l6:=cw X4.out.2.1 6 (v:=aA wr)
     have l7:=cw X4.out.2.1 7 (v:=V I ct)
     have l8:=cw X4.out.2.1 8 (v:=aA ow)
     have l9:=cw X4.out.2.1 9 (v:=aA ha)
     have l10:=cw X4.out.2.1 10 (v:=V I da)
     have r_0:=cw X4.out.2.2.1 0 (v:=aA r1)
     have r_1:=cw X4.out.2.2.1 1 (v:=aA r2)
     have r_2:=cw X4.out.2.2.1 2 (v:=aA r3)
     have r_3:=cw X4.out.2.2.1 3 (v:=aA r4)
     have r_4:=cw X4.out.2.2.1 4 (v:=aA r5)
     have r_5:=cw X4.out.2.2.1 5 (v:=aA r6)
     have r_6:=cw X4.out.2.2.1 6 (v:=aA r7)
     have r_7:=cw X4.out.2.2.1 7 (v:=aA r8)
     generalize endOk ⟨nn,b,t,se,wa,ca,wt,tr,po⟩ dd r3 r4=e2 at *
     cases e2
     ·have KV:=AS (show v=8 by rw[CE4.out];exact if_pos rfl)
      clear CE4
      go_wp2
      go_ret
      exact RV.of (by rw[KV.out];rfl) X4.out.2.2.2
     ·have CE5:=AS (CE4.out.trans (if_neg zB))
      clear CE4
      go_wp2_with fail
      refine(form_any ⟨nn,b,t,se,wa,ca,wt,tr,po⟩ ⟨k,f,dd,bl,q,wh,wr,⟨ct,ow,ha,da⟩⟩ ⟨r1,r2,r3,r4,r5,r6,r7,r8⟩ _).mono ?_
      rintro e w5 ⟨rfl,hb⟩
      have X5:=AS (show w5.heap[w.heap.size]?=M (O #[V I nn,V I b,V I t,V I se,V I wa,V I ca,V I wt,V I tr,V I po] 23)/\w5.heap[w.heap.size+1]?=M (O #[V I k,V I f,V I dd,V I bl,V I q,V I wh,aA wr,V I ct,aA ow,aA ha,V I da] 47)/\w5.heap[g3]?=M (O #[aA r1,aA r2,aA r3,aA r4,aA r5,aA r6,aA r7,aA r8] 228)/\Below w.heap.size w w5 from⟨kA X4.out.1 hb,kA X4.out.2.1 hb,kA X4.out.2.2.1 hb,X4.out.2.2.2.trans (hb.mono X4.out.2.2.2.size)⟩)
      clear hb
      clear c0 c1 c2 c3 c4 c5 c6 c7 c8 l0 l1 l2 l3 l4 l5 l6 l7 l8 l9 l10 r_0 r_1 r_2 r_3 r_4 r_5 r_6 r_7
      have c0:=cw X5.out.1 0 (v:=V I nn)
      have c1:=cw X5.out.1 1 (v:=V I b)
      have c2:=cw X5.out.1 2 (v:=V I t)
      have c3:=cw X5.out.1 3 (v:=V I se)
      have c4:=cw X5.out.1 4 (v:=V I wa)
      have c5:=cw X5.out.1 5 (v:=V I ca)
      have c6:=cw X5.out.1 6 (v:=V I wt)
      have c7:=cw X5.out.1 7 (v:=V I tr)
      have c8:=cw X5.out.1 8 (v:=V I po)
      have l0:=cw X5.out.2.1 0 (v:=V I k)
      have l1:=cw X5.out.2.1 1 (v:=V I f)
      have l2:=cw X5.out.2.1 2 (v:=V I dd)
      have l3:=cw X5.out.2.1 3 (v:=V I bl)
      have l4:=cw X5.out.2.1 4 (v:=V I q)
      have l5:=cw X5.out.2.1 5 (v:=V I wh)
      have l6:=cw X5.out.2.1 6 (v:=aA wr)
      have l7:=cw X5.out.2.1 7 (v:=V I ct)
      have l8:=cw X5.out.2.1 8 (v:=aA ow)
      have l9:=cw X5.out.2.1 9 (v:=aA ha)
      have l10:=cw X5.out.2.1 10 (v:=V I da)
      have r_0:=cw X5.out.2.2.1 0 (v:=aA r1)
      have r_1:=cw X5.out.2.2.1 1 (v:=aA r2)
      have r_2:=cw X5.out.2.2.1 2 (v:=aA r3)
      have r_3:=cw X5.out.2.2.1 3 (v:=aA r4)
      have r_4:=cw X5.out.2.2.1 4 (v:=aA r5)
      have r_5:=cw X5.out.2.2.1 5 (v:=aA r6)
      have r_6:=cw X5.out.2.2.1 6 (v:=aA r7)
      have r_7:=cw X5.out.2.2.1 7 (v:=aA r8)
      generalize formOk ⟨nn,b,t,se,wa,ca,wt,tr,po⟩ ⟨k,f,dd,bl,q,wh,wr,⟨ct,ow,ha,da⟩⟩ ⟨r1,r2,r3,r4,r5,r6,r7,r8⟩=e3 at *
      cases e3
      ·have KV:=AS (show v=10 by rw[CE5.out];exact if_pos rfl)
       clear CE5
       go_wp2
       go_ret
       exact RV.of (by rw[KV.out];rfl) X5.out.2.2.2
      ·have CE6:=AS (CE5.out.trans (if_neg zB))
       clear CE5
       cases r8
       ·have hne:=fun w:cA=>neq45 w ct 0 da 0 ow false ha false
        have KV:=AS (show v=if (ct == 0 && (ow == false && (ha == false && (da == 0))))=true then 0 else 6 by rw[CE6.out];unfold chk5;simp)
        generalize (ct == 0 && (ow == false && (ha == false && (da == 0))))=e4 at *
        clear CE6
        cases e4
        all_goals
         go_wp2
         go_ret
         exact RV.of (by rw[KV.out];rfl) X5.out.2.2.2
       ·have KV:=AS (show v=if Bun.check ⟨ct,ow,ha,da⟩ t≠0∨ct > 0 then Bun.check ⟨ct,ow,ha,da⟩ t else 4 by rw[CE6.out];rfl)
        clear CE6
        go_wp2_with fail
        refine(bcheck_any ct ow ha da t _).mono ?_
        rintro e w6 ⟨rfl,hb⟩
        have X6:=AS (show w6.heap[w.heap.size]?=M (O #[V I nn,V I b,V I t,V I se,V I wa,V I ca,V I wt,V I tr,V I po] 23)/\w6.heap[w.heap.size+1]?=M (O #[V I k,V I f,V I dd,V I bl,V I q,V I wh,aA wr,V I ct,aA ow,aA ha,V I da] 47)/\w6.heap[g3]?=M (O #[aA r1,aA r2,aA r3,aA r4,aA r5,aA r6,aA r7,aA true] 228)/\Below w.heap.size w w6 from⟨kA X5.out.1 hb,kA X5.out.2.1 hb,kA X5.out.2.2.1 hb,X5.out.2.2.2.trans (hb.mono X5.out.2.2.2.size)⟩)
        clear hb
        clear c0 c1 c2 c3 c4 c5 c6 c7 c8 l0 l1 l2 l3 l4 l5 l6 l7 l8 l9 l10 r_0 r_1 r_2 r_3 r_4 r_5 r_6 r_7
        have c0:=cw X6.out.1 0 (v:=V I nn)
        have c1:=cw X6.out.1 1 (v:=V I b)
        have c2:=cw X6.out.1 2 (v:=V I t)
        have c3:=cw X6.out.1 3 (v:=V I se)
        have c4:=cw X6.out.1 4 (v:=V I wa)
        have c5:=cw X6.out.1 5 (v:=V I ca)
        have c6:=cw X6.out.1 6 (v:=V I wt)
        have c7:=cw X6.out.1 7 (v:=V I tr)
        have c8:=cw X6.out.1 8 (v:=V I po)
        have l0:=cw X6.out.2.1 0 (v:=V I k)
        have l1:=cw X6.out.2.1 1 (v:=V I f)
        have l2:=cw X6.out.2.1 2 (v:=V I dd)
        have l3:=cw X6.out.2.1 3 (v:=V I bl)
        have l4:=cw X6.out.2.1 4 (v:=V I q)
        have l5:=cw X6.out.2.1 5 (v:=V I wh)
        have l6:=cw X6.out.2.1 6 (v:=aA wr)
        have l7:=cw X6.out.2.1 7 (v:=V I ct)
        have l8:=cw X6.out.2.1 8 (v:=aA ow)
        have l9:=cw X6.out.2.1 9 (v:=aA ha)
        have l10:=cw X6.out.2.1 10 (v:=V I da)
        have r_0:=cw X6.out.2.2.1 0 (v:=aA r1)
        have r_1:=cw X6.out.2.2.1 1 (v:=aA r2)
        have r_2:=cw X6.out.2.2.1 2 (v:=aA r3)
        have r_3:=cw X6.out.2.2.1 3 (v:=aA r4)
        have r_4:=cw X6.out.2.2.1 4 (v:=aA r5)
        have r_5:=cw X6.out.2.2.1 5 (v:=aA r6)
        have r_6:=cw X6.out.2.2.1 6 (v:=aA r7)
        have r_7:=cw X6.out.2.2.1 7 (v:=aA true)
        generalize Bun.check ⟨ct,ow,ha,da⟩ t=e5 at *
        by_cases h5:e5=0
        ·by_cases h6:ct > 0
         ·have KX:=AS (show v=e5 by rw[KV.out];exact if_pos (.inr h6))
          have h5b:(e5 != 0)=false:=by simp[h5]
          clear KV h5
          go_wp2
          go_ret
          exact RV.of (by rw[KX.out];rfl) X6.out.2.2.2
         ·have KX:=AS (show v=4 by rw[KV.out];exact if_neg (by rintro(h | h);exact h h5;exact h6 h))
          have h5b:(e5 != 0)=false:=by simp[h5]
          clear KV h5
          go_wp2
          go_ret
          exact RV.of (by rw[KX.out];rfl) X6.out.2.2.2
        ·have KX:=AS (show v=e5 by rw[KV.out];exact if_pos (.inl h5))
         have h5b:(e5 != 0)=true:=by simpa using h5
         clear KV h5
         go_wp2
         go_ret
         exact RV.of (by rw[KX.out];rfl) X6.out.2.2.2
end Go.Proofs.YtiebppkhaiofeaaGreat.K
namespace Go.Proofs.YtiebppkhaiofeaaGreat.K
open Go.RowKit Go.Proofs.YtiebppkhaiofeaaGreatW.PrintWords Go.Proofs.YtiebppkhaiofeaaGreat.S
attribute [local go_sem] World.cell?_alloc_some
open Go.ChangeMaps Go.MapKept
theorem under131:Tryz.prog.underlying 131=M (.map 3 4):=by kernel_rfl
theorem zero4 (w:cA):(zeroValue 4).run dA w=.ok (aA false) w:=by
 kernel_rfl
section
variable {b:Nat} {w:cA}
theorem MapI.look {g:Int->Int} (h:MapI g b w) (k:Int):(Instr.lookup 31 (.map (M b)) (V I k) false).run dA w=.ok (V I (g k)) w:=by
 obtain⟨es,ck,f,h1,h2,h3⟩:=h
 rw[<- h3 k]
 exact h2.look h1 under31 under3 (zero3 _) k
theorem MapB.look {g:Int->Bool} (h:MapB g b w) (k:Int):(Instr.lookup 131 (.map (M b)) (V I k) false).run dA w=.ok (aA (g k)) w:=by
 obtain⟨es,ck,f,h1,h2,h3⟩:=h
 rw[<- h3 k]
 exact h2.look h1 under131 under3 (zero4 _) k
theorem MapI.put {g:Int->Int} (h:MapI g b w) (k v:Int):∃ es ck,(Instr.mapUpdate 31 (.map (M b)) (V I k) (V I v)).run dA w=.ok () (aB w b (.map es ck))/\MapI (upd g k v) b (aB w b (.map es ck)):=by
 obtain⟨es,ck,f,h1,h2,h3⟩:=h
 obtain⟨es',ck',hr,hi⟩:=h2.put h1 under31 under3 k (V I v)
 refine⟨es',ck',hr,es',ck',_,set_at h1 _,hi,fun j=>?_⟩
 by_cases hj:j=k
 ·subst hj;simp[fput,upd]
 ·simp[fput,upd,hj,h3 j]
theorem MapB.put {g:Int->Bool} (h:MapB g b w) (k:Int) (v:Bool):∃ es ck,(Instr.mapUpdate 131 (.map (M b)) (V I k) (aA v)).run dA w=.ok () (aB w b (.map es ck))/\MapB (upd g k v) b (aB w b (.map es ck)):=by
 obtain⟨es,ck,f,h1,h2,h3⟩:=h
 obtain⟨es',ck',hr,hi⟩:=h2.put h1 under131 under3 k (aA v)
 refine⟨es',ck',hr,es',ck',_,set_at h1 _,hi,fun j=>?_⟩
 by_cases hj:j=k
 ·subst hj;simp[fput,upd]
 ·simp[fput,upd,hj,h3 j]
theorem MapB.del {g:Int->Bool} (h:MapB g b w) (k:Int) (a t:TypeId):∃ es ck,(Builtin.delete_ #[131,a] t #[.map (M b),V I k]).run dA w=.ok (.tuple #[]) (aB w b (.map es ck))/\MapB (upd g k false) b (aB w b (.map es ck)):=by
 obtain⟨es,ck,f,h1,h2,h3⟩:=h
 obtain⟨es',hr,hi⟩:=h2.del h1 under131 under3 k a t
 refine⟨es',ck,hr,es',ck,_,set_at h1 _,hi,fun j=>?_⟩
 by_cases hj:j=k
 ·subst hj;simp[fdel,upd]
 ·simp[fdel,upd,hj,h3 j]
end
def NS (c:Cfg) (n:S.Node) (o:S.Out) (p:NPtr) (K:Nat->Nat) (w w':cA):Prop:=∃ K',(∀ x,x < w.heap.size->K' x=K x)/\NO c n o p K' w'/\KS (fun x=>K x≤6) w w'
section
variable {c:Cfg} {n n':S.Node} {o o':S.Out} {p:NPtr} {K K1:Nat->Nat} {w w1 w2:cA}
theorem NS.refl (h:NO c n o p K w):NS c n o p K w w:=⟨K,fun _ _=>rfl,h,qB _ w⟩
theorem NOP.ns {v v':Value} (hv:v'=v) (h:NS c n o p K w w1):NOP v c n o p K w (.returned v') w1:=⟨by rw[hv],h⟩
theorem NS.next (h:NS c n o p K w w1) (hs:∀ K1,NO c n o p K1 w1->NS c n' o' p K1 w1 w2):NS c n' o' p K w w2:=by
 obtain⟨K1,ha,hN,hk⟩:=h
 obtain⟨K2,hb,hN2,hk2⟩:=hs K1 hN
 have hsz:=hk.size
 exact⟨K2,fun x hx=>(hb x vB).trans (ha x hx),hN2,hk.trans hk2 (fun x hx h=>by rw[<- ha x hx];exact h)⟩
theorem NS.below (h:NS c n o p K w w1) (hb:Below w1.heap.size w1 w2):NS c n o p K w w2:=by
 obtain⟨K1,ha,hN,hk⟩:=h
 have hsz:=hk.size
 exact⟨rec_ K1 w1 7,fun x hx=>(jB vB).trans (ha x hx),hN.below hb 7,hk.trans (pB (fun _=>False) hb) (fun x _ h=>h.elim)⟩
theorem NO.maps_told (h:NO c n o p K w) {ob:Obj} {g:Int->Int} (hm:MapI g p.bo (aB w p.bo ob)):NS c { n with told:=g } o p K w (aB w p.bo ob):=by
 obtain⟨⟨h1,h2,h3,h4,h5,h6,h7,h8,h9,h10⟩,ho⟩:=h
 have hne:¬ p.ba=p.bo:=fun e=>by rw[e] at h8;omega
 have hA:=h7.keep ((qB (fun x=>x=p.bo) w).block (.inl rfl) ob) hne
 exact⟨K,fun _ _=>rfl,NO.maps (n:=n) ⟨⟨h1,h2,h3,h4,h5,h6,h7,h8,h9,h10⟩,ho⟩ (.inr rfl) hA hm,(qB (fun x=>K x≤6) w).block (.inl vB) ob⟩
theorem NO.maps_asked (h:NO c n o p K w) {ob:Obj} {g:Int->Bool} (hm:MapB g p.ba (aB w p.ba ob)):NS c { n with asked:=g } o p K w (aB w p.ba ob):=by
 obtain⟨⟨h1,h2,h3,h4,h5,h6,h7,h8,h9,h10⟩,ho⟩:=h
 have hne:¬ p.bo=p.ba:=fun e=>by rw[e] at h10;omega
 have hA:=h9.keep ((qB (fun x=>x=p.ba) w).block (.inl rfl) ob) hne
 exact⟨K,fun _ _=>rfl,NO.maps (n:=n) ⟨⟨h1,h2,h3,h4,h5,h6,h7,h8,h9,h10⟩,ho⟩ (.inl rfl) hm hA,(qB (fun x=>K x≤6) w).block (.inl vB) ob⟩
theorem NO.send (h:NO c n o p K w) (hl:o.letters.length≤1000000000000) (l:Let):bB dA 97 #[bA (M ⟨p.q,0,U⟩),letV l] w (NOP (.tuple #[]) c n (o.send l) p K w):=by
 refine(outSend_any h.2 hl l).mono ?_
 rintro e w' ⟨rfl,hO,hk⟩
 refine⟨rfl,rec_ K w 6,fun x hx=>jB hx,⟨h.1.keep hk (fun x hx h5=>⟨jB hx,by show ¬ K x=6;omega⟩),hO⟩,hk.mono (fun x _ hx=>by show K x≤6;omega)⟩
end
def NG (c:Cfg) (n:S.Node) (o:S.Out) (p:NPtr) (K:Nat->Nat) (w:cA) (g:Nat) (ob:Obj) (w':cA):Prop:=∃ K',(∀ x,x < w.heap.size->K' x=K x)/\NO c n o p K' w'/\KS (fun x=>K x≤6) w w'/\K' g=7/\w'.heap[g]?=M ob
section
variable {c:Cfg} {n n':S.Node} {o o':S.Out} {p:NPtr} {K:Nat->Nat} {w w1 w2:cA} {g:Nat} {ob:Obj}
theorem NG.ns (h:NG c n o p K w g ob w1):NS c n o p K w w1:=by obtain⟨K1,h1,h2,h3,-⟩:=h;exact⟨K1,h1,h2,h3⟩
theorem NS.box (h:NS c n o p K w w1) (ob:Obj):NG c n o p K w w1.heap.size ob (w1.alloc ob):=by
 obtain⟨K1,ha,hN,hk⟩:=h
 have hsz:=hk.size
 have hb:=eA (fA _ w1) ob
 exact⟨rec_ K1 w1 7,fun x hx=>(jB vB).trans (ha x hx),hN.below hb 7,hk.trans (pB (fun _=>False) hb) (fun x _ h=>h.elim),rec_new (pA _),nA w1 ob⟩
theorem NG.below (h:NG c n o p K w g ob w1) (hb:Below w1.heap.size w1 w2):NG c n o p K w g ob w2:=by
 obtain⟨K1,ha,hN,hk,hg,hgo⟩:=h
 have hsz:=hk.size
 exact⟨rec_ K1 w1 7,fun x hx=>(jB vB).trans (ha x hx),hN.below hb 7,hk.trans (pB (fun _=>False) hb) (fun x _ h=>h.elim),(jB (eB hgo)).trans hg,kA hgo hb⟩
theorem NG.via (h:NG c n o p K w g ob w1) (hs:∀ K1,NO c n o p K1 w1->(∀ x,x < w.heap.size->K1 x=K x)->K1 g=7->NS c n' o' p K1 w1 w2):NG c n' o' p K w g ob w2:=by
 obtain⟨K1,ha,hN,hk,hg,hgo⟩:=h
 obtain⟨K2,hb,hN2,hk2⟩:=hs K1 hN ha hg
 have hsz:=hk.size
 exact⟨K2,fun x hx=>(hb x vB).trans (ha x hx),hN2,hk.trans hk2 (fun x hx h=>by rw[<- ha x hx];exact h),(hb g (eB hgo)).trans hg,hk2.at_ hgo (by show ¬ K1 g≤6;omega)⟩
theorem NG.call {f:Nat} {args:Array Value} {v:Value} (h:NG c n o p K w g ob w1) (hs:∀ K1,NO c n o p K1 w1->bB dA f args w1 (NOP v c n' o' p K1 w1)):bB dA f args w1 (fun e w'=>e=.returned v/\NG c n' o' p K w g ob w'):=by
 have h0:=h
 obtain⟨K1,ha,hN,hk,hg,hgo⟩:=h
 refine(hs K1 hN).mono ?_
 rintro e w2 ⟨rfl,K2,hb,hN2,hk2⟩
 have hsz:=hk.size
 exact⟨rfl,K2,fun x hx=>(hb x vB).trans (ha x hx),hN2,hk.trans hk2 (fun x hx h=>by rw[<- ha x hx];exact h),(hb g (eB hgo)).trans hg,hk2.at_ hgo (by show ¬ K1 g≤6;omega)⟩
end
theorem nodeEnd_any {c:Cfg} {n:S.Node} {o:S.Out} {p:NPtr} {K:Nat->Nat} {w:cA} (hN:NO c n o p K w) (hl:o.letters.length≤1000000000000) (b:Int):bB dA 112 #[bA (M ⟨p.b,0,U⟩),V I b,bA (M ⟨p.q,0,U⟩)] w (NOP (.tuple #[]) c (n.end_ c b o).1 (n.end_ c b o).2 p K w):=by
 have NN:=AS hN
 have HL:=AS hl
 have OW:=AS (nodeOwn_any hN.1 b)
 have hend:n.end_ c b o=if (n.own b).isSome=true/\¬ (Table.actOf n.know b).seq≤n.told b then ({ n with told:=upd n.told b (Table.actOf n.know b).seq,asked:=upd n.asked b false },o.send (n.home c 5 b (Table.actOf n.know b).seq)) else (n,o):=by
  unfold Node.end_
  cases h:n.own b with
  | none=>simp
  | some a =>
   have:=own_some_ (n:=n) (b:=b) (by rw[h];rfl)
   rw[h] at this
   injection this with this
   subst this
   by_cases h2:(Table.actOf n.know b).seq≤n.told b <;> simp[h2]
 generalize n.end_ c b o=R at *
 generalize (n.own b).isSome=ok at *
 have CE:=AS (show ∀ W':cA,W'.heap[p.b]?=M (O (nodeC c n p) 133 (0,0))->W'.cell? ⟨p.b,13,U⟩=M (.map (M p.ba))/\W'.cell? ⟨p.b,14,U⟩=M (.map (M p.bo)) from fun W' h=>⟨cw h 13,cw h 14⟩)
 generalize hact:Table.actOf n.know b=act at *
 obtain⟨a0,a1,a2⟩:=act
 have hav:actV ⟨a0,a1,a2⟩=.agg #[V I a0,V I a1,V I a2]:=rfl
 rw[hav] at OW
 have HR:=AS hend
 clear hav hend hN hl hact
 generalize hpb:p.b=pb at *
 go_enter Tryz.func112,Tryz.ntmps112
 go_wp2_with fail
 refine OW.out.mono ?_
 rintro e w2 ⟨rfl,hb2⟩
 have N2:=AS ((NS.refl NN.out).below hb2)
 clear hb2 OW
 go_upto_region 1 with fail
 have NB:=AS (nA w2 (O #[V I a0,V I a1,V I a2] 55))
 have N3:=AS (N2.out.box (O #[V I a0,V I a1,V I a2] 55))
 clear N2
 generalize hg:w2.heap.size=g at *
 generalize w2.alloc (O #[V I a0,V I a1,V I a2] 55)=W3 at NB N3 ⊢
 have h14:W3.cell? ⟨pb,14,U⟩=M (.map (M p.bo)):=by obtain⟨K1,-,h,-,-⟩:=N3.out;have h11:=h.1.1;rw[hpb] at h11;exact(CE.out _ h11).2
 have hlk:(Instr.lookup 31 (.map (M p.bo)) (V I b) false).run dA W3.drew=.ok (V I (n.told b)) W3.drew:=by obtain⟨K1,-,h,-,-⟩:=N3.out;exact(MapI.keep h.1.2.2.2.2.2.2.2.2.1 (sB (qB (fun _=>False) W3)) id).look b
 generalize n.told b=to_ at *
 have a_0:=cw NB.out 0 (v:=V I a0)
 have a_1:=cw NB.out 1 (v:=V I a1)
 have a_2:=cw NB.out 2 (v:=V I a2)
 go_cut [6,26] (fun v6 v26 wx=>v6=bA (M ⟨g,0,U⟩)/\(∃ u,v26=aA u/\u = !(ok && !decide (a2≤to_)))/\wx=W3.drew)
 case first =>
  have DR:=AS (show ok=ok from rfl)
  cases ok
  all_goals
   go_region
   all_goals
    go_wp2_with fail
    go_meet
    refine⟨rfl,⟨_,rfl,?_⟩,rfl⟩
    first | rfl | (simp[go_sem];done) | (by_cases he:a2≤to_ <;> simp[he,go_sem])
 case rest =>
  obtain⟨rfl,⟨u,rfl,hu⟩,rfl⟩:=hcut
  have NB4:=AS (fB NB.out)
  have N4:=AS (N3.out.below (iA (fA _ W3)))
  clear a_0 a_1 a_2 h14 hlk NB N3
  generalize W3.drew=W4 at NB4 N4 ⊢
  have hr:=HR.out
  by_cases hq:ok=true/\¬ a2≤to_
  case neg =>
   replace hr:=hr.trans (if_neg (by first | exact hq | simpa using hq | (simp at hq ⊢;exact hq)))
   subst hr
   obtain rfl:u=true:=by rw[hu];cases ok <;> simp_all
   go_wp2
   first
    | go_ret
    | go_end0
   exact NOP.ns rfl N4.out.ns
  case pos =>
   replace hr:=hr.trans (if_pos (by first | exact hq | simpa using hq | (simp at hq ⊢;exact hq)))
   subst hr
   obtain rfl:u=false:=by rw[hu];simp[hq.1];omega
   have a_2:=cw NB4.out 2 (v:=V I a2)
   have HM:=AS (show bB dA 98 #[bA (M ⟨pb,0,U⟩),V I 5,V I b,V I a2] W4 (RV (letV (n.home c 5 b a2)) W4) from by obtain⟨K1,-,h,-,-⟩:=N4.out;have:=nodeHome_any h.1 5 b a2;rw[hpb] at this;exact this)
   clear hq hu
   go_wp2_with fail
   refine HM.out.mono ?_
   rintro e w5 ⟨rfl,hb5⟩
   have N5:=AS (N4.out.below hb5)
   clear hb5 HM NB4 N4 a_2
   go_wp2_with fail
   refine(N5.out.call (fun K1 h=>h.send HL.out (n.home c 5 b a2))).mono ?_
   rintro e w6 ⟨rfl,h6⟩
   have N6:=AS h6
   clear h6 N5
   obtain⟨es,ck,hrun,hm7⟩:∃ es ck,(Instr.mapUpdate 31 (.map (M p.bo)) (V I b) (V I a2)).run dA w6.drew=.ok () (aB w6.drew p.bo (.map es ck))/\MapI (upd n.told b a2) p.bo (aB w6.drew p.bo (.map es ck)):=by
    obtain⟨K1,-,h,-,-⟩:=N6.out
    exact(MapI.keep h.1.2.2.2.2.2.2.2.2.1 (sB (qB (fun _=>False) w6)) id).put b a2
   have N7:=AS ((N6.out.below (iA (fA _ w6))).via (fun K1 h _ _=>h.maps_told hm7))
   clear hm7
   have h14:w6.cell? ⟨pb,14,U⟩=M (.map (M p.bo)):=by obtain⟨K1,-,h,-,-⟩:=N6.out;have h11:=h.1.1;rw[hpb] at h11;exact(CE.out _ h11).2
   have a_2:w6.cell? ⟨g,2,U⟩=M (V I a2):=by obtain⟨K1,-,h,-,-,h2⟩:=N6.out;exact(cw h2 2)
   go_upto_region 3 with fail
   go_cut [6] (fun v6 wx=>wx=aB w6.drew p.bo (.map es ck))
   case first =>
    go_region
    all_goals
     go_wp2_with fail
     go_meet
     exact rfl
   case rest =>
    rw[<- hcut] at N7
    clear hcut hrun h14 a_2 N6
    have h13:wc.cell? ⟨pb,13,U⟩=M (.map (M p.ba)):=by obtain⟨K1,-,h,-,-⟩:=N7.out;have h11:=h.1.1;rw[show nodeC c { n with told:=upd n.told b a2 } p=nodeC c n p from rfl,hpb] at h11;exact(CE.out _ h11).1
    obtain⟨es',ck',hdel,hm8⟩:∃ es ck,(Builtin.delete_ #[131,3] 0 #[.map (M p.ba),V I b]).run dA wc=.ok (.tuple #[]) (aB wc p.ba (.map es ck))/\MapB (upd n.asked b false) p.ba (aB wc p.ba (.map es ck)):=by
     obtain⟨K1,-,h,-,-⟩:=N7.out
     exact MapB.del h.1.2.2.2.2.2.2.1 b 3 0
    have N8:=AS (N7.out.via (fun K1 h _ _=>h.maps_asked hm8))
    clear hm8 N7
    go_wp2
    first
     | go_ret
     | go_end0
    exact NOP.ns rfl N8.out.ns
section
variable {c:Cfg} {n n':S.Node} {o o':S.Out} {p:NPtr} {K:Nat->Nat} {w w1 w2:cA}
theorem NO.deact (h:NO c n o p K w) (k s:Int):bB dA 137 #[bA (M ⟨p.bt,0,U⟩),V I k,V I s] w (NOP (.tuple #[]) c { n with know:=n.know.deactivate k s } o p K w):=by
 refine(tabDeactivate_any h.1.2.2.2.1 k s).mono ?_
 rintro e w' ⟨rfl,hT,hk⟩
 exact⟨rfl,rec_ K w 2,fun x hx=>jB hx,h.table hT hk,hk.mono (fun x _ hx=>by have hx':K x=2:=hx;show K x≤6;omega)⟩
theorem NO.act (h:NO c n o p K w) (a:S.Act):bB dA 136 #[bA (M ⟨p.bt,0,U⟩),actV a] w (NOP (aA (n.know.activate a).2) c { n with know:=(n.know.activate a).1 } o p K w):=by
 refine(tabActivate_any h.1.2.2.2.1 a).mono ?_
 rintro e w' ⟨rfl,hT,hk⟩
 exact⟨rfl,rec_ K w 2,fun x hx=>jB hx,h.table hT hk,hk.mono (fun x _ hx=>by have hx':K x=2:=hx;show K x≤6;omega)⟩
theorem NO.cacDo (h:NO c n o p K w) (ob:Int) (ow:Bool) (ov:Int):bB dA 110 #[bA (M ⟨p.bc,0,U⟩),.agg #[V I ob,aA ow,V I ov],V I c.tokens] w (NOP (.tuple #[V I (n.lines.doIt c ⟨ob,ow,ov⟩).2.1,aA (n.lines.doIt c ⟨ob,ow,ov⟩).2.2]) c { n with lines:=(n.lines.doIt c ⟨ob,ow,ov⟩).1 } o p K w):=by
 refine(cacDo_any h.1.2.2.1 ob ow ov).mono ?_
 rintro e w' ⟨rfl,hT,hk⟩
 exact⟨rfl,rec_ K w 1,fun x hx=>jB hx,h.cache hT hk,hk.mono (fun x _ hx=>by have hx':K x=1:=hx;show K x≤6;omega)⟩
theorem NO.cacTake (h:NO c n o p K w) (k m:Int) (a d:Bool):bB dA 135 #[bA (M ⟨p.bc,0,U⟩),V I k,V I m,aA a,aA d] w (NOP (bunV (n.lines.take c k m a d).2) c { n with lines:=(n.lines.take c k m a d).1 } o p K w):=by
 refine(cacTake_any h.1.2.2.1 k m a d).mono ?_
 rintro e w' ⟨rfl,hT,hk⟩
 exact⟨rfl,rec_ K w 1,fun x hx=>jB hx,h.cache hT hk,hk.mono (fun x _ hx=>by have hx':K x=1:=hx;show K x≤6;omega)⟩
theorem NO.cacAbsorb (h:NO c n o p K w) (k t0:Int) (t1 t2:Bool) (t3 q:Int):bB dA 131 #[bA (M ⟨p.bc,0,U⟩),V I k,.agg #[V I t0,aA t1,aA t2,V I t3],V I q] w (NOP (absV (n.lines.absorb c k ⟨t0,t1,t2,t3⟩ q).2) c { n with lines:=(n.lines.absorb c k ⟨t0,t1,t2,t3⟩ q).1 } o p K w):=by
 refine(cacAbsorb_any h.1.2.2.1 k t0 t1 t2 t3 q).mono ?_
 rintro e w' ⟨rfl,hT,hk⟩
 exact⟨rfl,rec_ K w 1,fun x hx=>jB hx,h.cache hT hk,hk.mono (fun x _ hx=>by have hx':K x=1:=hx;show K x≤6;omega)⟩
theorem NO.drew (h:NO c n o p K w):NO c n o p (rec_ K w 7) w.drew:=h.below (iA (fA _ w)) 7
end
theorem nodeDeact_any {c:Cfg} {n:S.Node} {o:S.Out} {p:NPtr} {K:Nat->Nat} {w:cA} (hN:NO c n o p K w) (hl:o.letters.length≤1000000000000) (l:Let) (d:Drw):bB dA 95 #[bA (M ⟨p.b,0,U⟩),letV l,drwV d,bA (M ⟨p.q,0,U⟩)] w (NOP (.tuple #[]) c (n.deactivate c l o).1 (n.deactivate c l o).2 p K w):=by
 obtain⟨k,f,t,b,qq,wh,wr,⟨c0,oo,hh,dd⟩⟩:=l
 obtain⟨d0,d1,d2⟩:=d
 have HL:=AS hl
 have CE:=AS (show ∀ W':cA,W'.heap[p.b]?=M (O (nodeC c n p) 133 (0,0))->W'.cell? ⟨p.b,11,U⟩=M (bA (M ⟨p.bt,0,U⟩)) from fun W' h=>(cw h 11))
 have N1:=AS (((NS.refl hN).box (O #[V I k,V I f,V I t,V I b,V I qq,V I wh,aA wr,V I c0,aA oo,aA hh,V I dd] 47)).below (eA (fA _ _) (O #[V I d0,V I d1,V I d2] 74)))
 show bB dA 95 #[bA (M ⟨p.b,0,U⟩),.agg #[V I k,V I f,V I t,V I b,V I qq,V I wh,aA wr,V I c0,aA oo,aA hh,V I dd],.agg #[V I d0,V I d1,V I d2],bA (M ⟨p.q,0,U⟩)] w (NOP (.tuple #[]) c { n with know:=n.know.deactivate b qq } (o.send (n.home c 7 b qq)) p K w)
 clear hN hl
 generalize hpb:p.b=pb at *
 go_enter Tryz.func95,Tryz.ntmps95
 go_upto_region 1 with fail
 generalize hW:(w.alloc (O #[V I k,V I f,V I t,V I b,V I qq,V I wh,aA wr,V I c0,aA oo,aA hh,V I dd] 47)).alloc (O #[V I d0,V I d1,V I d2] 74)=W at N1 ⊢
 generalize hg:w.heap.size=g at *
 have e11:W.cell? ⟨pb,11,U⟩=M (bA (M ⟨p.bt,0,U⟩)):=by obtain⟨K1,-,h,-,-⟩:=N1.out;have h11:=h.1.1;rw[hpb] at h11;exact CE.out _ h11
 have e3:W.cell? ⟨g,3,U⟩=M (V I b):=by obtain⟨K1,-,h,-,-,h2⟩:=N1.out;exact(cw h2 3)
 have e4:W.cell? ⟨g,4,U⟩=M (V I qq):=by obtain⟨K1,-,h,-,-,h2⟩:=N1.out;exact(cw h2 4)
 have TB:=AS ((N1.out.below (iA (fA _ W))).call (fun K1 h=>h.deact b qq))
 clear hW
 go_cut [5] (fun v5 wx=>v5=bA (M ⟨g,0,U⟩)/\NG c { n with know:=n.know.deactivate b qq } o p K w g (O #[V I k,V I f,V I t,V I b,V I qq,V I wh,aA wr,V I c0,aA oo,aA hh,V I dd] 47) wx)
 case first =>
  go_region_with (go_at_call 137;refine TB.out.mono ?_;rintro e w3 ⟨rfl,h3⟩;have S3:=AS h3;clear h3)
  all_goals
   go_wp2_with fail
   go_meet
   exact⟨rfl,S3.out⟩
 case rest =>
  obtain⟨rfl,hcut⟩:=hcut
  have N2:=AS hcut
  clear hcut TB e11 e3 e4 N1
  have e3:wc.cell? ⟨g,3,U⟩=M (V I b):=by obtain⟨K1,-,h,-,-,h2⟩:=N2.out;exact(cw h2 3)
  have e4:wc.cell? ⟨g,4,U⟩=M (V I qq):=by obtain⟨K1,-,h,-,-,h2⟩:=N2.out;exact(cw h2 4)
  have HM:=AS (show bB dA 98 #[bA (M ⟨pb,0,U⟩),V I 7,V I b,V I qq] wc (RV (letV (n.home c 7 b qq)) wc) from by obtain⟨K1,-,h,-,-⟩:=N2.out;have:=nodeHome_any h.1 7 b qq;rw[hpb] at this;exact this)
  go_wp2_with fail
  refine HM.out.mono ?_
  rintro e w5 ⟨rfl,hb5⟩
  have N5:=AS (N2.out.below hb5)
  clear hb5 HM N2 e3 e4
  go_wp2_with fail
  refine(N5.out.call (fun K1 h=>h.send HL.out (n.home c 7 b qq))).mono ?_
  rintro e w6 ⟨rfl,h6⟩
  have N6:=AS h6
  clear h6 N5
  go_wp2
  go_end0
  exact NOP.ns rfl N6.out.ns
end Go.Proofs.YtiebppkhaiofeaaGreat.K
namespace Go.Proofs.YtiebppkhaiofeaaGreat.K
open Go.RowKit Go.Proofs.YtiebppkhaiofeaaGreatW.PrintWords Go.Proofs.YtiebppkhaiofeaaGreat.S
section
variable {c:Cfg} {n n':S.Node} {o o':S.Out} {p:NPtr} {K:Nat->Nat} {w w1 w2:cA}
theorem NO.procP (h:NO c n o p K w) {e:Ending} {v:Value} {pr:S.Proc} (hP:ProcP c v pr p.bp w e w1):NOP v c { n with cpu:=pr } o p K w e w1:=by
 obtain⟨rfl,hp,hk⟩:=hP
 have h6:=h.1.2.2.2.2.2.1
 exact⟨rfl,rec_ K w 7,fun x hx=>jB hx,h.proc hp hk,KS.ofKeeps hk (by intro x hx;simp at hx;subst hx;show K p.bp≤6;omega)⟩
theorem NO.finish (h:NO c n o p K w):bB dA 111 #[bA (M ⟨p.bp,0,U⟩)] w (NOP (.tuple #[V I n.cpu.finish.2.1,aA n.cpu.finish.2.2]) c { n with cpu:=n.cpu.finish.1 } o p K w):=(finish_any h.1.2.2.2.2.1).mono fun _ _ hP=>h.procP hP
theorem NO.pissue (h:NO c n o p K w) (op:S.Op):bB dA 83 #[bA (M ⟨p.bp,0,U⟩),opV op] w (NOP (aA (n.cpu.issue c op).2) c { n with cpu:=(n.cpu.issue c op).1 } o p K w):=(issue_any h.1.2.2.2.2.1 op).mono fun _ _ hP=>h.procP hP
theorem NO.ptick (h:NO c n o p K w) (h0:0≤c.wait) (h1:c.wait≤64):bB dA 96 #[bA (M ⟨p.bp,0,U⟩)] w (NOP (V I (n.cpu.tick c).2) c { n with cpu:=(n.cpu.tick c).1 } o p K w):=(ptick_any h.1.2.2.2.2.1 h0 h1).mono fun _ _ hP=>h.procP hP
theorem OutK.addDone {q:Nat} (hO:OutK o q K w) (d:S.Done):∃ vd:Value×Value,w.heap[q]?=M (O #[vd.1,vd.2] 138 (0,0))/\OwnE doneE vd.2 o.done w/\q∉foot vd.2/\∀ w1 v',KS (fun x=>x∈foot vd.2) w w1->OwnE doneE v' (o.done ++ [d]) w1->(∀ x∈foot v',x∈foot vd.2∨w.heap.size≤x)->(OutK { o with done:=o.done ++ [d]} q (rec_ K w 6) (w1.setCell ⟨q,1,U⟩ v')/\KS (fun x=>K x=6) w (w1.setCell ⟨q,1,U⟩ v')):=by
 obtain⟨vl,vd,h1,h2,h3,h4,h5,h6,h7,h8,h9⟩:=hO
 have hq:=eB h1
 have hl2:=h2.lt
 have hl3:=h3.lt
 refine⟨(vl,vd),h1,h3,h5,fun w1 v' hk hO hf=>?_⟩
 have hq6:rec_ K w 6 q=6:=(jB hq).trans h7
 have hv6:∀ x∈foot v',rec_ K w 6 x=6:=fun x hx=>by
  rcases hf x hx with h | h
  ·rw[jB (hl3 x h)];exact h9 x h
  ·exact rec_new h
 have hqv:q∉foot v':=fun hx=>by rcases hf q hx with h | h;exact h5 h;omega
 have hk2:=KS.set (qB (fun x=>x=q) w1) (.inl rfl) 1 v' (g:=q)
 refine⟨⟨vl,v',(mA (hk.at_ h1 h5) 1 v').trans zB,(h2.ks hk (fun x hx e=>h6 x hx e)).ks hk2 (fun x hx e=>h4 (e ▸ hx)),hO.ks hk2 (fun x hx e=>hqv (e ▸ hx)),h4,hqv,fun x hx hd=>?_,hq6,fun x hx=>by rw[jB (hl2 x hx)];exact h8 x hx,hv6⟩,(hk.mono (fun x _ hx=>h9 x hx)).trans hk2 (fun x _ e=>by rw[e];exact h7)⟩
 rcases hf x hd with h | h
 ·exact h6 x hx h
 ·have:=hl2 x hx;omega
theorem NO.outK (h:NO c n o p K w) (hO:OutK o' p.q (rec_ K w 6) w1) (hk:KS (fun x=>K x=6) w w1):NS c n o' p K w w1 :=
 ⟨rec_ K w 6,fun x hx=>jB hx,⟨h.1.keep hk (fun x hx h5=>⟨jB hx,by show ¬ K x=6;omega⟩),hO⟩,hk.mono (fun x _ hx=>by have hx':K x=6:=hx;show K x≤6;omega)⟩
end
end Go.Proofs.YtiebppkhaiofeaaGreat.K
namespace Go.Proofs.YtiebppkhaiofeaaGreat.K
open Go.RowKit Go.Proofs.YtiebppkhaiofeaaGreatW.PrintWords Go.Proofs.YtiebppkhaiofeaaGreat.S
attribute [local go_sem] World.cell?_alloc_some
open Go.ChangeMaps Go.MapKept
theorem doIt_no {c:Cfg} {s:Cache} {op:S.Op} (h:(s.doIt c op).2.2=false):(s.doIt c op).1=s:=by
 have hdo:s.doIt c op=if (doOp op (s.tok op.block) c.tokens).2.2 then ((({ s with tok:=upd s.tok op.block (doOp op (s.tok op.block) c.tokens).1 }:Cache).use c op.block).1,(doOp op (s.tok op.block) c.tokens).2) else (s,(doOp op (s.tok op.block) c.tokens).2):=rfl
 cases hq:(doOp op (s.tok op.block) c.tokens).2.2 with
 | false=>rw[hdo,hq];rfl
 | true=>rw[hdo,hq] at h;simp[hq] at h
theorem RV.below {v:Value} {w w':cA} {e:Ending} (h:RV v w e w'):Below w.heap.size w w':=h.2
theorem nodeSettle_any {c:Cfg} {n:S.Node} {o:S.Out} {p:NPtr} {K:Nat->Nat} {w:cA} (hN:NO c n o p K w) (hl:o.letters.length≤1000000000000) (hd:o.done.length≤1000000000000):bB dA 84 #[bA (M ⟨p.b,0,U⟩),bA (M ⟨p.q,0,U⟩)] w (NOP (.tuple #[]) c (n.settle c o).1 (n.settle c o).2 p K w):=by
 have NN:=AS hN
 have HL:=AS (qA hl hd)
 have PD:=AS (pending_any hN.1.2.2.2.2.1)
 have hset:n.settle c o=if n.cpu.busy=true then (if (n.lines.doIt c n.cpu.op).2.2=true then ({ n with lines:=(n.lines.doIt c n.cpu.op).1,cpu:=n.cpu.finish.1 }:S.Node).end_ c n.cpu.op.block { o with done:=o.done ++ [(⟨n.id,n.cpu.finish.2.1,n.cpu.op,(n.lines.doIt c n.cpu.op).2.1,0⟩:S.Done)]} else (n,o)) else (n,o):=by
  unfold Node.settle
  cases n.cpu.busy <;> simp
  cases (n.lines.doIt c n.cpu.op).2.2 <;> simp
 generalize n.settle c o=R at *
 have HR:=AS hset
 have CE:=AS (show ∀ (n':S.Node) (W':cA),n'.id=n.id->W'.heap[p.b]?=M (O (nodeC c n' p) 133 (0,0))->W'.cell? ⟨p.b,2,U⟩=M (V I c.tokens)/\W'.cell? ⟨p.b,9,U⟩=M (V I n.id)/\W'.cell? ⟨p.b,10,U⟩=M (bA (M ⟨p.bc,0,U⟩))/\W'.cell? ⟨p.b,12,U⟩=M (bA (M ⟨p.bp,0,U⟩)) from fun n' W' hi h=>⟨cw h 2,by rw[<- hi];exact(cw h 9),cw h 10,cw h 12⟩)
 clear hset hN hl hd
 have HOP:=AS (show n.cpu.op=n.cpu.op from rfl)
 generalize hop:n.cpu.op=op at *
 obtain⟨ob,ow,ov⟩:=op
 have PD':=AS (show bB dA 69 #[bA (M ⟨p.bp,0,U⟩)] w (RV (.tuple #[.agg #[V I ob,aA ow,V I ov],aA n.cpu.busy]) w) from PD.out)
 clear PD HOP
 generalize n.cpu.busy=busy at *
 generalize hpb:p.b=pb at *
 have e12:w.cell? ⟨pb,12,U⟩=M (bA (M ⟨p.bp,0,U⟩)):=by have h11:=NN.out.1.1;rw[hpb] at h11;exact(CE.out n _ rfl h11).2.2.2
 go_enter Tryz.func84,Tryz.ntmps84
 go_wp2_with fail
 refine PD'.out.mono ?_
 rintro e w2 ⟨rfl,hb2⟩
 have N2:=AS ((NS.refl NN.out).below hb2)
 clear hb2 PD' e12
 cases busy
 case false =>
  have hr:=HR.out
  replace hr:=hr.trans (if_neg zB)
  subst hr
  go_wp2
  go_end0
  exact NOP.ns rfl (N2.out.box _).ns
 case true =>
  have hr:=HR.out.trans (if_pos rfl)
  have HR2:=AS hr
  clear hr HR
  go_upto_region 2 with fail
  have N3:=AS (N2.out.box (O #[V I ob,aA ow,V I ov] 50))
  clear N2
  generalize hg:w2.heap.size=g at *
  generalize w2.alloc (O #[V I ob,aA ow,V I ov] 50)=W at N3 ⊢
  have e2:W.cell? ⟨pb,2,U⟩=M (V I c.tokens):=by obtain⟨K1,-,h,-,-⟩:=N3.out;have h11:=h.1.1;rw[hpb] at h11;exact(CE.out n _ rfl h11).1
  have e10:W.cell? ⟨pb,10,U⟩=M (bA (M ⟨p.bc,0,U⟩)):=by obtain⟨K1,-,h,-,-⟩:=N3.out;have h11:=h.1.1;rw[hpb] at h11;exact(CE.out n _ rfl h11).2.2.1
  have b0:W.cell? ⟨g,0,U⟩=M (V I ob):=by obtain⟨K1,-,h,-,-,h2⟩:=N3.out;exact(cw h2 0)
  have b1:W.cell? ⟨g,1,U⟩=M (aA ow):=by obtain⟨K1,-,h,-,-,h2⟩:=N3.out;exact(cw h2 1)
  have b2:W.cell? ⟨g,2,U⟩=M (V I ov):=by obtain⟨K1,-,h,-,-,h2⟩:=N3.out;exact(cw h2 2)
  have TB:=AS ((N3.out.below (iA (fA _ W))).call (fun K1 h=>h.cacDo ob ow ov))
  have DN:=AS (doIt_no (c:=c) (s:=n.lines) (op:=⟨ob,ow,ov⟩))
  generalize n.lines.doIt c ⟨ob,ow,ov⟩=dr at *
  obtain⟨ds,dv,dk⟩:=dr
  go_cut [4,5,6] (fun v4 v5 v6 wx=>v4=bA (M ⟨g,0,U⟩)/\v5=aA dk/\v6=V I dv/\NG c { n with lines:=ds } o p K w g (O #[V I ob,aA ow,V I ov] 50) wx)
  case first =>
   go_region_with (go_at_call 110;refine TB.out.mono ?_;rintro e w3 ⟨rfl,h3⟩;have S3:=AS h3;clear h3)
   all_goals
    go_wp2_with fail
    go_meet
    exact⟨rfl,rfl,rfl,S3.out⟩
  case rest =>
   obtain⟨rfl,rfl,rfl,hcut⟩:=hcut
   have N4:=AS hcut
   clear hcut TB e2 e10 b0 b1 b2 N3
   cases dk
   case false =>
    have hr:=HR2.out.trans (if_neg zB)
    subst hr
    have hds:=DN.out rfl
    simp only at hds
    subst hds
    go_wp2
    go_end0
    exact NOP.ns rfl N4.out.ns
   case true =>
    have hr:=HR2.out.trans (if_pos rfl)
    have HR3:=AS hr
    clear hr HR2 DN
    have e12:wc.cell? ⟨pb,12,U⟩=M (bA (M ⟨p.bp,0,U⟩)):=by obtain⟨K1,-,h,-,-⟩:=N4.out;have h11:=h.1.1;rw[hpb] at h11;exact(CE.out _ _ rfl h11).2.2.2
    have FC:=AS (N4.out.call (fun K1 h=>h.finish))
    simp only at FC
    generalize n.cpu.finish=fin at *
    obtain⟨fp,fk,fb⟩:=fin
    go_wp2_with fail
    refine FC.out.mono ?_
    rintro e w5 ⟨rfl,h5⟩
    have N5:=AS h5
    clear h5 FC N4 e12
    go_upto_region 5 with fail
    have e9:w5.cell? ⟨pb,9,U⟩=M (V I n.id):=by obtain⟨K1,-,h,-,-⟩:=N5.out;have h11:=h.1.1;rw[hpb] at h11;exact(CE.out _ _ rfl h11).2.1
    have b0:w5.cell? ⟨g,0,U⟩=M (V I ob):=by obtain⟨K1,-,h,-,-,h2⟩:=N5.out;exact(cw h2 0)
    have b1:w5.cell? ⟨g,1,U⟩=M (aA ow):=by obtain⟨K1,-,h,-,-,h2⟩:=N5.out;exact(cw h2 1)
    have b2:w5.cell? ⟨g,2,U⟩=M (V I ov):=by obtain⟨K1,-,h,-,-,h2⟩:=N5.out;exact(cw h2 2)
    obtain⟨K5,ha5,hN5,hk5,hg5,hgo5⟩:=N5.out
    obtain⟨⟨vl,vd⟩,hq1,hq2,hq3,hfin⟩:=hN5.2.addDone ⟨n.id,fk,⟨ob,ow,ov⟩,dv,0⟩
    simp only at hq1 hq2 hq3 hfin
    obtain⟨A,cp,hv,-⟩:=hq2.row
    subst hv
    have hsz5:=hk5.size
    have FIN:=AS (show ∀ w1 v',KS (fun x=>x∈foot (J A o.done.length cp)) w5 w1->OwnE doneE v' (o.done ++ [⟨n.id,fk,⟨ob,ow,ov⟩,dv,0⟩]) w1->(∀ x∈foot v',x∈foot (J A o.done.length cp)∨w5.heap.size≤x)->NG c { n with lines:=ds,cpu:=fp } { o with done:=o.done ++ [⟨n.id,fk,⟨ob,ow,ov⟩,dv,0⟩]} p K w g (O #[V I ob,aA ow,V I ov] 50) (w1.setCell ⟨p.q,1,U⟩ v') from by
     intro w1 v' h1 h2 h3
     obtain⟨h4,h5⟩:=hfin w1 v' h1 h2 h3
     obtain⟨K6,hb,hN6,hk6⟩:=NO.outK hN5 h4 h5
     exact⟨K6,fun x hx=>(hb x vB).trans (ha5 x hx),hN6,hk5.trans hk6 (fun x hx h=>by rw[<- ha5 x hx];exact h),(hb g (eB hgo5)).trans hg5,hk6.at_ hgo5 (by show ¬ K5 g≤6;omega)⟩)
    have OA:=AS (show OwnE doneE (J A o.done.length cp) o.done ((w5.alloc (O #[V I n.id,V I fk,V I ob,aA ow,V I ov,V I dv,V I 0] 59)).drew) from hq2.ks (pB (fun _=>False) (iA (eA (fA _ _) _))) (fun _ _=>id))
    have RA:=AS (rowE_one (E:=doneE) (x:=⟨n.id,fk,⟨ob,ow,ov⟩,dv,0⟩) (fB (nA w5 (O #[V I n.id,V I fk,V I ob,aA ow,V I ov,V I dv,V I 0] 59))))
    have X:=AS (qA hq1 hq3)
    have c0:=cw hq1 1 (v:=J A o.done.length cp)
    clear ha5 hN5 hk5 hg5 hgo5 hq1 hq2 hq3 hfin hsz5
    go_cut [4] (fun v4 wx=>v4=bA (M ⟨g,0,U⟩)/\NG c { n with lines:=ds,cpu:=fp } { o with done:=o.done ++ [⟨n.id,fk,⟨ob,ow,ov⟩,dv,0⟩]} p K w g (O #[V I ob,aA ow,V I ov] 50) wx)
    case first =>
     go_region_law (first | (refine step_appE (E:=doneE) (xs:=o.done) (ys:=[⟨n.id,fk,⟨ob,ow,ov⟩,dv,0⟩]) xB _ _ rfl rfl rfl rfl (by exact OA.out) (by exact RA.out) (by have:=HL.out.2;show _ * 56≤_;simp;omega) ?_;intro v1 w1 hO hK hf;have KK:=AS (show KS (fun x=>x∈foot (J A o.done.length cp)) w5 w1 from(pB _ (iA (eA (fA _ _) (O #[V I n.id,V I fk,V I ob,aA ow,V I ov,V I dv,V I 0] 59)))).trans (KS.keeps hK) (fun _ _ h=>h));have hfin:=FIN.out w1 v1 KK.out hO (by intro x hx;rcases hf with e | e;exact .inl (by rw[e] at hx;exact hx);exact .inr (by rw[e] at hx;simp[World.drew] at hx;omega));have FI:=AS hfin;have Y1:=AS (KK.out.at_ X.out.1 X.out.2);obtain⟨A1,n1,k1,rfl⟩:∃ A n c,v1=J A n c:=(by obtain⟨A,c,h,_⟩:=OwnE.row hO;exact⟨_,_,_,h⟩);clear hfin hO hK hf;have y2:=jA Y1.out 1;have y3:w1.cell? ⟨p.q,1,U⟩=M (J A o.done.length cp):=cw Y1.out 1))
     all_goals
      go_wp2_with fail
      go_meet
      exact⟨rfl,FI.out⟩
    case rest =>
     obtain⟨rfl,hcut⟩:=hcut
     have N6:=AS hcut
     clear hcut FIN OA RA X c0 e9 b0 b1 b2 N5
     have b0:wc.cell? ⟨g,0,U⟩=M (V I ob):=by obtain⟨K1,-,h,-,-,h2⟩:=N6.out;exact(cw h2 0)
     have EN:=AS (N6.out.call (fun K1 h=>nodeEnd_any h HL.out.1 ob))
     rw[hpb] at EN
     have hr:=HR3.out
     go_wp2_with fail
     refine EN.out.mono ?_
     rintro e w7 ⟨rfl,h7⟩
     have N7:=AS h7
     clear h7 EN
     go_wp2
     go_end0
     rw[hr]
     exact NOP.ns rfl N7.out.ns
end Go.Proofs.YtiebppkhaiofeaaGreat.K
namespace Go.Proofs.YtiebppkhaiofeaaGreat.K
open Go.RowKit Go.Proofs.YtiebppkhaiofeaaGreatW.PrintWords Go.Proofs.YtiebppkhaiofeaaGreat.S
attribute [local go_sem] World.cell?_alloc_some frz_alloc'
theorem spread_any (k s b q wh n:Int) (w:cA):bB dA 127 #[V I k,V I s,V I b,V I q,V I wh,V I n] w fun e w'=>∃ v,e=.returned v/\OwnE letE v (spread k s b q wh n) w'/\Below w.heap.size w w'/\(∀ x∈foot v,w.heap.size≤x):=by
 have hn:(n < 0/\max (min n 64) 0=0)∨(0≤n/\n≤64/\max (min n 64) 0=n)∨(64 < n/\max (min n 64) 0=64):=vB
 have hsp:=AS (show spread k s b q wh n=spN k s b q wh (max (min n 64) 0).toNat from rfl)
 rw[hsp.out]
 rcases hn with ⟨h1,h2⟩ | ⟨h1,h3,h2⟩ | ⟨h1,h2⟩
 ·rw[h2]
  clear h2 hsp
  go_enter Tryz.func127,Tryz.ntmps127
  go_wp2
  go_loopw [13,18] (fun v13 v18 wr=>∃ (i:Nat),v18=V I i/\(i:Int)≤0/\Aside0 (OwnE letE v13 (spN k s b q wh i) wr/\Below w.heap.size w wr/\(∀ x∈foot v13,w.heap.size≤x))) (fun _ v18 _=>65 - (intOf v18).toNat)
  case atStart=>exact⟨0,rfl,vB,⟨OwnE.nil _,fA _ _,by simp[foot_nil]⟩⟩
  case round =>
   obtain⟨i,rfl,hi,R⟩:=hrel
   obtain⟨A,c,rfl,-,hc,-,-⟩:=R.out.1.row
   by_cases c1:(i:Int) < 0
   ·exact absurd c1 vB
   ·have hik:(i:Int)=0:=vB
    have HI:=AS hik
    clear hik
    go_wp2
    go_ret
    refine⟨_,rfl,?_,R.out.2.1,R.out.2.2⟩
    show OwnE letE _ (spN k s b q wh (Int.toNat 0)) _
    rw[show Int.toNat 0=i by have:=HI.out;omega]
    exact R.out.1
 ·rw[h2]
  clear h2 hsp
  go_enter Tryz.func127,Tryz.ntmps127
  go_wp2
  go_loopw [13,18] (fun v13 v18 wr=>∃ (i:Nat),v18=V I i/\(i:Int)≤n/\Aside0 (OwnE letE v13 (spN k s b q wh i) wr/\Below w.heap.size w wr/\(∀ x∈foot v13,w.heap.size≤x))) (fun _ v18 _=>65 - (intOf v18).toNat)
  case atStart=>exact⟨0,rfl,vB,⟨OwnE.nil _,fA _ _,by simp[foot_nil]⟩⟩
  case round =>
   obtain⟨i,rfl,hi,R⟩:=hrel
   obtain⟨A,c,rfl,-,hc,-,-⟩:=R.out.1.row
   by_cases c1:(i:Int) < n
   ·have X:=AS (nA wr (O (letC ⟨k,s,i,b,q,wh,false,b0⟩).toArray 47))
    have RW:=AS (rowE_one (E:=letE) (x:=⟨k,s,i,b,q,wh,false,b0⟩) X.out)
    have O_:=AS (R.out.1.keep (Keeps.below [] (eA (fA _ wr) (O (letC ⟨k,s,i,b,q,wh,false,b0⟩).toArray 47))) zB)
    have B:=AS (eA R.out.2.1 (O (letC ⟨k,s,i,b,q,wh,false,b0⟩).toArray 47))
    have FT:=AS R.out.2.2
    have hi64:i < 64:=vB
    have HL:=AS (show(spN k s b q wh i).length=i by simp[spN])
    clear R
    go_wp2_with (at_builtin;refine list_appE (E:=letE) (xs:=spN k s b q wh i) (ys:=[⟨k,s,i,b,q,wh,false,b0⟩]) xB _ _ rfl rfl rfl rfl (by exact O_.out) (by exact RW.out) (by have:=HL.out;show _ * 80≤_;simp;omega) ?_;intro v1 w1 hO hK hf;obtain⟨A1,n1,k1,rfl⟩:∃ A n c,v1=J A n c:=(by obtain⟨A,c,h,_⟩:=OwnE.row hO;exact⟨_,_,_,h⟩);have O1:=AS hO;have K1:=AS hK;have F1:=AS hf;clear hO hK hf)
    go_roundw
    case rel =>
     refine⟨i+1,by go_num,vB,⟨?_,?_,?_⟩⟩
     ·rw[show spN k s b q wh (i+1)=spN k s b q wh i ++ [⟨k,s,i,b,q,wh,false,b0⟩] by simp[spN,List.range_succ]]
      exact O1.out
     ·exact B.out.trans (K1.out.toBelow FT.out (by have:=B.out.size;simpa using this))
     ·intro x hx
      rcases F1.out with e | e
      ·rw[e] at hx;exact FT.out x hx
      ·rw[e] at hx;have h2:=B.out.size;simp at hx h2;omega
    case measure=>simp[intOf];omega
   ·have hik:(i:Int)=n:=vB
    have HI:=AS hik
    clear hik
    go_wp2
    go_ret
    refine⟨_,rfl,?_,R.out.2.1,R.out.2.2⟩
    show OwnE letE _ (spN k s b q wh (Int.toNat n)) _
    rw[show Int.toNat n=i by have:=HI.out;omega]
    exact R.out.1
 ·rw[h2]
  clear h2 hsp
  go_enter Tryz.func127,Tryz.ntmps127
  go_wp2
  go_loopw [13,18] (fun v13 v18 wr=>∃ (i:Nat),v18=V I i/\(i:Int)≤64/\Aside0 (OwnE letE v13 (spN k s b q wh i) wr/\Below w.heap.size w wr/\(∀ x∈foot v13,w.heap.size≤x))) (fun _ v18 _=>65 - (intOf v18).toNat)
  case atStart=>exact⟨0,rfl,vB,⟨OwnE.nil _,fA _ _,by simp[foot_nil]⟩⟩
  case round =>
   obtain⟨i,rfl,hi,R⟩:=hrel
   obtain⟨A,c,rfl,-,hc,-,-⟩:=R.out.1.row
   by_cases c1:(i:Int) < 64
   ·have X:=AS (nA wr (O (letC ⟨k,s,i,b,q,wh,false,b0⟩).toArray 47))
    have RW:=AS (rowE_one (E:=letE) (x:=⟨k,s,i,b,q,wh,false,b0⟩) X.out)
    have O_:=AS (R.out.1.keep (Keeps.below [] (eA (fA _ wr) (O (letC ⟨k,s,i,b,q,wh,false,b0⟩).toArray 47))) zB)
    have B:=AS (eA R.out.2.1 (O (letC ⟨k,s,i,b,q,wh,false,b0⟩).toArray 47))
    have FT:=AS R.out.2.2
    have hi64:i < 64:=vB
    have HL:=AS (show(spN k s b q wh i).length=i by simp[spN])
    clear R
    go_wp2_with (at_builtin;refine list_appE (E:=letE) (xs:=spN k s b q wh i) (ys:=[⟨k,s,i,b,q,wh,false,b0⟩]) xB _ _ rfl rfl rfl rfl (by exact O_.out) (by exact RW.out) (by have:=HL.out;show _ * 80≤_;simp;omega) ?_;intro v1 w1 hO hK hf;obtain⟨A1,n1,k1,rfl⟩:∃ A n c,v1=J A n c:=(by obtain⟨A,c,h,_⟩:=OwnE.row hO;exact⟨_,_,_,h⟩);have O1:=AS hO;have K1:=AS hK;have F1:=AS hf;clear hO hK hf)
    go_roundw
    case rel =>
     refine⟨i+1,by go_num,vB,⟨?_,?_,?_⟩⟩
     ·rw[show spN k s b q wh (i+1)=spN k s b q wh i ++ [⟨k,s,i,b,q,wh,false,b0⟩] by simp[spN,List.range_succ]]
      exact O1.out
     ·exact B.out.trans (K1.out.toBelow FT.out (by have:=B.out.size;simpa using this))
     ·intro x hx
      rcases F1.out with e | e
      ·rw[e] at hx;exact FT.out x hx
      ·rw[e] at hx;have h2:=B.out.size;simp at hx h2;omega
    case measure=>simp[intOf];omega
   ·have hik:(i:Int)=64:=vB
    have HI:=AS hik
    clear hik
    go_wp2
    go_ret
    refine⟨_,rfl,?_,R.out.2.1,R.out.2.2⟩
    show OwnE letE _ (spN k s b q wh (Int.toNat 64)) _
    rw[show Int.toNat 64=i by have:=HI.out;omega]
    exact R.out.1
end Go.Proofs.YtiebppkhaiofeaaGreat.K
