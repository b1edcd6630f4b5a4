/- Part of the proof of TopPolicies: what functions of the program do. -/
import Derived.Test.YtiebppkhaiofeaaGreatP18
import Derived.Test.YtiebppkhaiofeaaGreatP29
import Derived.Test.YtiebppkhaiofeaaGreatP00
set_option maxHeartbeats 4000000
set_option maxRecDepth 100000
set_option linter.unusedVariables false
set_option linter.unusedSimpArgs false
open Go.IntKind renaming i64→I
open Go.Value renaming slice→J, int→V, bool→aA
open Option renaming some→M, none→U
open Go.Obj renaming cells→O
open Go renaming Calls→bB, World→cA
open List renaming getD_eq_getElem?_getD→cB, getElem?_eq_getElem→dB, mem_cons_of_mem→kB, mem_singleton→tA, replicate→uA, mem_cons_self→wA, length_append→xA
open Go.Proofs.Tryz renaming prog→dA
open Go.Proofs.YtiebppkhaiofeaaGreatW.PrintWords renaming below_alloc→eA, blk_lt→eB, blk_frozen→jA, blk_below→kA, blk_alloc→lA, blk_set→mA, blk_new→nA
open Go.RowKit.Below renaming refl→fA, drew→iA, setCell→oA
open Nat renaming le_trans→lB, le_refl→pA
open Go.Proofs.YtiebppkhaiofeaaGreat.K.KS renaming below→pB, refl→qB
open Go.World renaming size_alloc→rA
open Go.Proofs.YtiebppkhaiofeaaGreat.S renaming nodeAt→uB
namespace Go.Proofs.YtiebppkhaiofeaaGreat.K
open Go.RowKit (wrap64)
open Go.Proofs.YtiebppkhaiofeaaGreat.S
section
variable {c:Cfg} {i:Nat} {op:S.Op} {v:Int->Int} {cnt:Nat->Int} {s:S.World} {d:Drw}
def Play (c:Cfg) (s:S.World) (l:List Ent) (s':S.World) (ds:List S.Done):Prop:=∀ a b,∃ r,l.foldl (runF c) (s,a,b)=(s',r,b ++ ds)
theorem Play.nil:Play c s [] s []:=fun a b=>⟨a,zB⟩
theorem Play.one (e:Ent):Play c s [e] (s.step c e).1 (s.step c e).2.2:=fun a b=>⟨_,rfl⟩
theorem Play.app {l l':List Ent} {s' s'':S.World} {ds ds':List S.Done} (h:Play c s l s' ds) (h':Play c s' l' s'' ds'):Play c s (l ++ l') s'' (ds ++ ds'):=fun a b=>by
 obtain⟨r,h1⟩:=h a b
 obtain⟨r',h2⟩:=h' r (b ++ ds)
 exact⟨r',by rw[List.foldl_append,h1,h2,List.append_assoc]⟩
theorem next_go (hl:s.nodes.length=c.nodes.toNat) (hi:i < c.nodes.toNat) (d:Drw):(s.way≠[]->nextS s d=(⟨2,0,d.x,d.y,d.z⟩,true))/\(s.way=[]->(uB s i).cpu.busy=true->nextS s d=(⟨4,0,d.x,d.y,d.z⟩,true)):=by
 unfold nextS
 refine⟨fun h=>?_,fun h hb=>?_⟩
 ·rw[if_pos (List.length_pos_iff.2 h)]
 ·rw[if_neg (by rw[h];simp),if_pos (any_yes (i:=i) vB hb)]
theorem next_no (hl:s.nodes.length=c.nodes.toNat) (hQ:Q c v cnt s) (d:Drw):nextS s d=(ent0,false):=by
 unfold nextS
 rw[if_neg (by rw[hQ.way];simp),any_no (fun j hj=>hQ.idle j vB)]
 simp
theorem settle_ok (hc:Small c) (d:Drw):∀ (k:Nat) (s:S.World) (out:List Ent),mu c i s < k->mu c i s≤400->WOk c s->s.steps+mu c i s≤1000000->S.Inv c i op v cnt s ->
  ∃ s' more ds,settleN c d k s out=(s',out ++ more,true)/\WOk c s'/\Q c (reg op v) cnt s'/\s'.steps=s.steps+more.length/\more.length≤mu c i s/\Play c s more s' ds/\ds.map strip=if (uB s i).cpu.busy=true then [doneOf i op v (cnt i)] else []
 | 0,s,out,h,_,_,_,_=>by omega
 | k+1,s,out,h,h4,hW,hst,hI=>by
  have hl:=hW.t.len
  have hiN:=hI.base.iN
  obtain⟨g1,g2⟩:=next_go (s:=s) hl hiN d
  have h0:=hW.t.st
  have go:∀ e s1 ds1,nextS s d=(e,true)->s.step c e=(s1,1,ds1)->Res c i op v cnt s s1 ds1->∃ s' more ds,settleN c d (k+1) s out=(s',out ++ more,true)/\WOk c s'/\Q c (reg op v) cnt s'/\s'.steps=s.steps+more.length/\more.length≤mu c i s/\Play c s more s' ds/\ds.map strip=if (uB s i).cpu.busy=true then [doneOf i op v (cnt i)] else []:=fun e s1 ds1 hn hs hR=>by
   have hm:=hR.mu
   have hW1:=wok_step hc.ok hW vB e
   have ht1:=(tinv_step hc.ok hW.t vB e).2.2
   rw[hs] at hW1 ht1
   have ht1:s1.steps=s.steps+1:=ht1
   obtain⟨s',more,ds,r1,r2,r3,r4,r5,r6,r7⟩:=settle_ok hc d k s1 (out ++ [e]) vB vB hW1 (by rw[ht1];omega) hR.inv
   refine⟨s',e :: more,ds1 ++ ds,?_,r2,r3,by rw[r4,ht1,List.length_cons];omega,by rw[List.length_cons];omega,?_,?_⟩
   ·unfold settleN
    rw[hn,hs]
    simp only[Bool.true_eq_false,if_false]
    rw[if_neg yB,r1];simp
   ·have:=Play.one (c:=c) (s:=s) e
    rw[hs] at this
    exact this.app r6
   ·rw[List.map_append,hR.don,r7]
    have hmon:=hR.mon
    cases hb:(uB s i).cpu.busy <;> cases hb1:(uB s1 i).cpu.busy
    ·simp
    ·have:=hmon hb1;rw[hb] at this;cases this
    ·simp
    ·simp
  cases hw:s.way with
  | cons l rest =>
   obtain⟨s1,ds1,e1,hR⟩:=step_dlv hc hW vB h4 hI hw d
   exact go _ s1 ds1 (g1 (by rw[hw];simp)) e1 hR
  | nil =>
   cases hb:(uB s i).cpu.busy
   ·have hQ:=hI.still hc hW hw hb
    refine⟨s,[],[],?_,hW,hQ,zB,Nat.zero_le _,Play.nil,zB⟩
    unfold settleN
    rw[next_no hl hQ]
    simp
   ·obtain⟨s1,ds1,e1,hR⟩:=step_tck hc hW h4 hI hw hb d
    have:=go _ s1 ds1 (g2 hw hb) e1 hR
    rw[hb] at this;exact this
def expL (lg:Ent->Bool):List Ent->(Int->Int)->(Nat->Int)->List S.Done
 | [],_,_=>[]
 | e :: es,v,cnt=>if lg e=true then doneOf e.a.toNat e.op v (cnt e.a.toNat+1) :: expL lg es (reg e.op v) (fun j=>if j=e.a.toNat then cnt e.a.toNat+1 else cnt j) else expL lg es v cnt
theorem expL_cons (lg:Ent->Bool) (e:Ent) (es:List Ent) (v:Int->Int) (cnt:Nat->Int):expL lg (e :: es) v cnt=if lg e=true then doneOf e.a.toNat e.op v (cnt e.a.toNat+1) :: expL lg es (reg e.op v) (fun j=>if j=e.a.toNat then cnt e.a.toNat+1 else cnt j) else expL lg es v cnt:=rfl
theorem script_ok (hc:Small c) (d:Drw):∀ (ops:List Ent) (s:S.World) (out:List Ent) (v:Int->Int) (cnt:Nat->Int),(∀ e∈ops,e.kind=1)->Q c v cnt s->WOk c s->(∀ j,0≤cnt j/\cnt j+ops.length≤1000)->s.steps+500 * ops.length≤500000 ->
  ∃ l s' ds,scriptN c d ops s out=(out ++ l,true)/\Play c s l s' ds/\l.length≤500 * ops.length/\ds.map strip=expL (fun e=>e.legal c) ops v cnt
 | [],s,out,v,cnt,_,_,_,_,_=>⟨[],s,[],by simp[scriptN],Play.nil,pA _,rfl⟩
 | x :: xs,s,out,v,cnt,hk,hQ,hW,hcn,hst=>by
  have h0:=hW.t.st
  have hx:=hk x wA
  have hxs:∀ e∈xs,e.kind=1:=fun e he=>hk e (kB _ he)
  have hW1:=wok_step hc.ok hW vB x
  have ht1:=(tinv_step hc.ok hW.t vB x).2.2
  have hcx:∀ j,0≤cnt j/\cnt j+1+xs.length≤1000:=fun j=>by have:=hcn j;rw[List.length_cons] at this;omega
  rw[List.length_cons] at hst
  by_cases hleg:x.legal c=true
  ·obtain⟨s1,ds1,e1,hI,hmu,hd1⟩:=step_iss hc hW hQ x hx hleg rfl (by have:=hcx x.a.toNat;omega)
   rw[e1] at hW1 ht1
   have ht1:s1.steps=s.steps+1:=ht1
   obtain⟨s2,more,ds2,r1,r2,r3,r4,r5,r6,r7⟩:=settle_ok (out:=[]) hc d 65536 s1 vB hmu hW1 (by rw[ht1];omega) hI
   obtain⟨l,s3,ds3,q1,q2,q3,q4⟩:=script_ok hc d xs s2 (out ++ [x] ++ more) (reg x.op v) _ hxs r3 r2 (fun j=>by
    have:=hcx j
    have:=hcx x.a.toNat
    split <;> omega) (by rw[r4,ht1];omega)
   have hP:Play c s [x] s1 ds1:=by
    have:=Play.one (c:=c) (s:=s) x
    rw[e1] at this;exact this
   refine⟨[x] ++ more ++ l,s3,ds1 ++ ds2 ++ ds3,?_,(hP.app r6).app q2,by simp only[xA,List.length_cons,List.length_nil];omega,?_⟩
   ·unfold scriptN
    rw[e1]
    simp only[List.nil_append] at r1
    rw[r1]
    simp only[if_true]
    rw[q1]
    simp only[List.append_assoc]
   ·rw[List.map_append,List.map_append,hd1,r7,q4]
    show _=expL _ (x :: xs) v cnt
    rw[expL_cons,if_pos hleg]
    have hone:((if (uB s1 x.a.toNat).cpu.busy=true then [] else [doneOf x.a.toNat x.op v (cnt x.a.toNat+1)]) ++ if (uB s1 x.a.toNat).cpu.busy=true then [doneOf x.a.toNat x.op v (cnt x.a.toNat+1)] else [])=[doneOf x.a.toNat x.op v (cnt x.a.toNat+1)]:=by
     split <;> simp
    simp only[if_true]
    rw[hone];rfl
  ·have hlf:x.legal c=false:=by simpa using hleg
   have e1:s.step c x=({ s with steps:=wrap64 (s.steps+1)},0,[]):=by
    unfold S.World.step
    simp only
    rw[hlf];rfl
   rw[e1] at hW1 ht1
   have hQ1:Q c v cnt ({ s with steps:=wrap64 (s.steps+1)}:S.World):=hQ.congr rfl rfl rfl
   generalize ({ s with steps:=wrap64 (s.steps+1)}:S.World)=s1 at e1 hW1 ht1 hQ1
   have ht1:s1.steps=s.steps+1:=ht1
   obtain⟨l,s3,ds3,q1,q2,q3,q4⟩:=script_ok hc d xs s1 (out ++ [x] ++ []) v cnt hxs hQ1 hW1 (fun j=>by have:=hcx j;omega) (by rw[ht1];omega)
   have hP:Play c s [x] s1 []:=by
    have:=Play.one (c:=c) (s:=s) x
    rw[e1] at this;exact this
   have hset:settleN c d 65536 s1 []=(s1,[],true):=by
    unfold settleN
    rw[next_no hW1.t.len hQ1];rfl
   refine⟨[x] ++ l,s3,[] ++ ds3,?_,hP.app q2,by simp only[xA,List.length_cons,List.length_nil];omega,?_⟩
   ·unfold scriptN
    rw[e1,hset]
    simp only[if_true]
    rw[q1]
    simp only[List.append_assoc,List.append_nil]
   ·rw[List.nil_append,q4]
    show _=expL _ (x :: xs) v cnt
    rw[expL_cons,if_neg (by rw[hlf];simp)]
theorem q_new (hc:Small c):Q c (fun _=>0) (fun _=>0) (S.World.new c):=by
 obtain⟨-,-,-,-,-,-,-,-,-,-,-,-,hn1,hn2,hb1,hb2,ht1,ht2⟩:=check_ok hc.ok
 have hnode:∀ j,j < c.nodes.toNat->uB (S.World.new c) j=S.Node.new j:=fun j hj=>new_node c j _ hj
 have hmem:(S.World.new c).home.mem=uA c.blocks.toNat (full c.tokens 0):=by
  show uA (clamp c.blocks 0 64).toNat _=_
  have:clamp c.blocks 0 64=c.blocks:=by unfold clamp;omega
  rw[this]
 have hrow:∀ x,R (S.World.new c) x=ar0:=fun x=>by
  show Arb.row (Arb.new c.nodes c.blocks) x=ar0
  unfold Arb.row Arb.new
  simp only
  rw[cB,List.getElem?_replicate]
  split <;> rfl
 have hfull:full c.tokens 0=⟨c.tokens,true,true,0⟩:=by unfold full;rw[if_neg vB]
 have hg:S.Good c.tokens 0 (full c.tokens 0):=by
  rw[hfull]
  exact⟨by show 0≤c.tokens;omega,Int.le_refl _,(fun h=>by have h':c.tokens=0:=h;omega),(fun _=>rfl),(fun h=>by cases h),(fun _=>rfl)⟩
 have hget:∀ x,(S.World.new c).home.get x=if 0≤x/\x < c.blocks then full c.tokens 0 else b0:=fun x=>by
  unfold S.Home.get S.Home.is
  rw[hmem]
  simp only[List.length_replicate,Bool.and_eq_true,decide_eq_true_eq]
  by_cases h:0≤x/\x < c.blocks
  ·rw[if_pos ⟨h.1,vB⟩,if_pos h,cB,List.getElem?_replicate,if_pos vB];rfl
  ·rw[if_neg (fun z=>h ⟨z.1,vB⟩),if_neg h]
 have hns:∀ (f:Bun->Int) (x:Int),f b0=0->nsum f x (S.World.new c).nodes=0:=fun f x hf=>nsum_zero f x _ (fun n hn=>by
  have hn':n∈(List.range c.nodes.toNat).map fun(i:Nat)=>S.Node.new i:=hn
  obtain⟨k,-,rfl⟩:=List.mem_map.1 hn'
  exact hf)
 refine⟨rfl,by rw[hmem];simp,fun x _ _=>by rw[hrow];exact⟨rfl,rfl,rfl⟩,fun j hj=>by rw[hnode j hj];rfl,fun j hj=>by rw[hnode j hj];rfl,fun j hj x _ _=>by rw[hnode j hj,hrow];exact Int.le_refl _,fun j hj x _ _=>by rw[hnode j hj,hrow];exact Int.le_refl _,fun j hj x=>by rw[hnode j hj];rfl,?_⟩
 refine⟨fun n hn x=>?_,fun x=>?_,(fun l hl=>by cases hl),fun x h0 h1=>?_,fun x h0 h1=>?_⟩
 ·have hn':n∈(List.range c.nodes.toNat).map fun(i:Nat)=>S.Node.new i:=hn
  obtain⟨k,-,rfl⟩:=List.mem_map.1 hn'
  exact good_b0 vB
 ·rw[hget];split
  ·exact hg
  ·exact good_b0 vB
 ·unfold tally
  rw[hget,if_pos ⟨h0,h1⟩,hns cn x rfl,hfull]
  show c.tokens+0+0=c.tokens
  omega
 ·unfold tally
  rw[hget,if_pos ⟨h0,h1⟩,hns ow x rfl,hfull]
  rfl
theorem script_run (hc:Small c) (d:Drw) (ops:List Ent) (hk:∀ e∈ops,e.kind=1) (hl:ops.length≤12) :
  ∃ l,scriptN c d ops (S.World.new c) []=(l,true)/\l.length≤6000/\(runL c l).2.2.map strip=expL (fun e=>e.legal c) ops (fun _=>0) (fun _=>0):=by
 obtain⟨l,s',ds,h1,h2,h3,h4⟩:=script_ok hc d ops (S.World.new c) [] (fun _=>0) (fun _=>0) hk (q_new hc) (wok_new hc.ok) (fun j=>by omega) (by show(0:Int)+_≤_;omega)
 obtain⟨r,h5⟩:=h2 [] []
 refine⟨l,by rw[h1];rfl,vB,?_⟩
 unfold runL
 rw[h5]
 exact h4
end
end Go.Proofs.YtiebppkhaiofeaaGreat.K
namespace Go.Proofs.YtiebppkhaiofeaaGreat.K
open Go.RowKit Go.Proofs.YtiebppkhaiofeaaGreatW.PrintWords Go.Proofs.YtiebppkhaiofeaaGreat.S
attribute [local go_sem] World.cell?_alloc_some
open Go.ChangeMaps Go.MapKept
theorem same_any {xs ys:List S.Done} {n:Nat} (ha:xs.length=n) (hb:ys.length=n) (hn:n≤900000) {A B:Option Addr} {ca cb:Nat} {w:cA} (hA:OwnE doneE (J A n ca) xs w) (hB:OwnE doneE (J B n cb) ys w) (he:xs.map strip=ys.map strip):bB dA 15 #[J A n ca,J B n cb] w (RV (aA true) w):=by
 have OA:=AS hA
 have OB:=AS hB
 have LA:=AS ha
 have LB:=AS hb
 have HE:=AS (show ∀ i,i < n->strip (xs.getD i done0)=strip (ys.getD i done0) from fun i hi=>by
  have h1:(xs.map strip)[i]?=(ys.map strip)[i]?:=by rw[he]
  rw[List.getElem?_map,List.getElem?_map,dB vB,dB vB] at h1
  rw[cB,cB,dB vB,dB vB]
  simpa using h1)
 have HN:=AS hn
 clear hA hB ha hb he hn
 go_enter Tryz.func15,Tryz.ntmps15
 go_wp2_with fail
 have R0:=AS (fA w.heap.size w)
 go_loopw [5,6,7,15] (fun v5 v6 v7 v15 wr=>∃ i:Nat,v15=V I i/\i≤n/\Aside0 (Below w.heap.size w wr)) (fun _ _ _ v15 _=>n+1 - (intOf v15).toNat)
 case atStart=>exact⟨0,rfl,vB,R0⟩
 case round =>
  obtain⟨i,rfl,hi,R⟩:=hrel
  by_cases hcc:i < n
  ·have q0:(0:Int)≤(i:Int):=vB
   have q1:(i:Int) < (n:Int):=vB
   obtain⟨ga,ka,ea,-,-,-,hca⟩:=own_some (OA.out.ks (pB (fun _=>False) R.out) (fun _ _=>id)) (i:=i) (by have:=LA.out;omega)
   obtain⟨gb,kb,eb,-,-,-,hcb⟩:=own_some (OB.out.ks (pB (fun _=>False) R.out) (fun _ _=>id)) (i:=i) (by have:=LB.out;omega)
   rw[LA.out] at ea
   rw[LB.out] at eb
   injection ea with ea1 ea2 ea3
   injection eb with eb1 eb2 eb3
   subst ea1 ea3 eb1 eb3
   have hs:=HE.out i hcc
   have HCA:=AS hca
   have HCB:=AS hcb
   obtain⟨dx,hdx⟩:∃ dx,xs.getD i done0=dx:=⟨_,rfl⟩
   obtain⟨dy,hdy⟩:∃ dy,ys.getD i done0=dy:=⟨_,rfl⟩
   rw[hdx,hdy] at hs
   obtain⟨n0,n1,⟨n2,n3,n4⟩,n5,n6⟩:=dx
   obtain⟨m0,m1,⟨m2,m3,m4⟩,m5,m6⟩:=dy
   simp only[strip,S.Done.mk.injEq,S.Op.mk.injEq] at hs
   obtain⟨rfl,rfl,⟨rfl,rfl,rfl⟩,rfl,-⟩:=hs
   have x0_:wr.cell? ⟨ga,i * 7,U⟩=M (V I n0):=(hca 0 yB).trans (by show(doneC (xs.getD i done0))[0]?=_;rw[hdx];rfl)
   have x1_:wr.cell? ⟨ga,i * 7+1,U⟩=M (V I n1):=(hca 1 yB).trans (by show(doneC (xs.getD i done0))[1]?=_;rw[hdx];rfl)
   have x2_:wr.cell? ⟨ga,i * 7+2,U⟩=M (V I n2):=(hca 2 yB).trans (by show(doneC (xs.getD i done0))[2]?=_;rw[hdx];rfl)
   have x3_:wr.cell? ⟨ga,i * 7+3,U⟩=M (aA n3):=(hca 3 yB).trans (by show(doneC (xs.getD i done0))[3]?=_;rw[hdx];rfl)
   have x4_:wr.cell? ⟨ga,i * 7+4,U⟩=M (V I n4):=(hca 4 yB).trans (by show(doneC (xs.getD i done0))[4]?=_;rw[hdx];rfl)
   have x5_:wr.cell? ⟨ga,i * 7+5,U⟩=M (V I n5):=(hca 5 yB).trans (by show(doneC (xs.getD i done0))[5]?=_;rw[hdx];rfl)
   have x6_:wr.cell? ⟨ga,i * 7+6,U⟩=M (V I n6):=(hca 6 yB).trans (by show(doneC (xs.getD i done0))[6]?=_;rw[hdx];rfl)
   have y0_:wr.cell? ⟨gb,i * 7,U⟩=M (V I n0):=(hcb 0 yB).trans (by show(doneC (ys.getD i done0))[0]?=_;rw[hdy];rfl)
   have y1_:wr.cell? ⟨gb,i * 7+1,U⟩=M (V I n1):=(hcb 1 yB).trans (by show(doneC (ys.getD i done0))[1]?=_;rw[hdy];rfl)
   have y2_:wr.cell? ⟨gb,i * 7+2,U⟩=M (V I n2):=(hcb 2 yB).trans (by show(doneC (ys.getD i done0))[2]?=_;rw[hdy];rfl)
   have y3_:wr.cell? ⟨gb,i * 7+3,U⟩=M (aA n3):=(hcb 3 yB).trans (by show(doneC (ys.getD i done0))[3]?=_;rw[hdy];rfl)
   have y4_:wr.cell? ⟨gb,i * 7+4,U⟩=M (V I n4):=(hcb 4 yB).trans (by show(doneC (ys.getD i done0))[4]?=_;rw[hdy];rfl)
   have y5_:wr.cell? ⟨gb,i * 7+5,U⟩=M (V I n5):=(hcb 5 yB).trans (by show(doneC (ys.getD i done0))[5]?=_;rw[hdy];rfl)
   have y6_:wr.cell? ⟨gb,i * 7+6,U⟩=M (V I m6):=(hcb 6 yB).trans (by show(doneC (ys.getD i done0))[6]?=_;rw[hdy];rfl)
   clear hca hcb hdx hdy
   go_wp2_with fail
   go_region
   all_goals
    have hn8:=HN.out
    go_wp2
    go_roundw
    case rel=>exact⟨i+1,by go_num,vB,⟨by have hz:=R.out.size;repeat (with_reducible first | exact R.out | apply eA | apply iA | refine oA ?_ (by dsimp only;omega) _)⟩⟩
    case measure=>simp[intOf];omega
  ·have hin:i=n:=vB
   subst hin
   go_wp2
   go_ret
   exact⟨rfl,R.out⟩
def great22 (c:Cfg) (n:Nat):Bool:=decide (100 < n) || decide (c.nodes > 4) || decide (c.blocks > 4) || decide (c.wait > 3) || decide (c.tries > 3) || decide (c.cap > 65536)
theorem great22_any (c:Cfg) (A:Option Addr) (n cp:Nat) (w:cA):bB dA 12 #[cfgV c,J A n cp] w (RV (aA (great22 c n)) w):=by
 obtain⟨nn,b,t,se,wa,ca,wt,tr,po⟩:=c
 unfold great22
 simp only[cfgV]
 go_enter Tryz.func12,Tryz.ntmps12
 go_wp2
 all_goals
  go_ret
  exact RV.of (by first | rfl | (show Value.bool _=Value.bool _;refine congrArg _ ?_;rw[Bool.eq_iff_iff];simp;done) | (show Value.bool _=Value.bool _;refine congrArg _ ?_;rw[Bool.eq_iff_iff];simp;omega)) (by repeat (with_reducible first | exact fA _ _ | apply eA | apply iA))
structure SlR where
 A:Option Addr
 n:Nat
 c:Nat
theorem info34:(Tryz.prog.info? 34).map (fun i=>(i.zero,i.size,i.bytes))=M (M (J U 0 0),1,24):=by kernel_rfl
def logE:El SlR where
 f:=fun r=>[J r.A r.n r.c]
 d:=⟨U,0,0⟩
 k:=1
 T:=34
 S:=65
 bys:=24
 z:=J U 0 0
 len:=fun _=>rfl
 one:=by
  intro l u hu
  simp only[List.mem_cons,List.not_mem_nil,or_false] at hu
  rcases hu with rfl;rfl
 pos:=by decide
 hS:=Tryz.underlying65
 info:=info34
 hz:=rfl
 hb:=by decide
def LogI (L:List SlR) (E:List S.Done) (w:cA):Prop:=∀ r∈L,∃ ds:List S.Done,ds.length=r.n/\r.n≤900000/\OwnE doneE (J r.A r.n r.c) ds w/\ds.map strip=E
theorem LogI.ks {L:List SlR} {E:List S.Done} {G:Set_} {w w':cA} (h:LogI L E w) (hk:KS G w w') (hG:∀ x,G x->∃ arr T,w.heap[x]?=M (O arr T (0,0))/\T≠59):LogI L E w':=fun r hr=>by
 obtain⟨ds,h1,h2,h3,h4⟩:=h r hr
 refine⟨ds,h1,h2,h3.ks hk (fun x hx g=>?_),h4⟩
 obtain⟨arr,T,e,hT⟩:=hG x g
 exact own_apart_blk h3 e hT hx
theorem LogI.below {L:List SlR} {E:List S.Done} {w w':cA} (h:LogI L E w) (hb:Below w.heap.size w w'):LogI L E w':=h.ks (pB (fun _=>False) hb) (fun _ h=>h.elim)
structure PolI (k:Cfg) (dd:Array Value) (E:List S.Done) (L:List SlR) (A:Option Addr) (cp:Nat) (pv:Int) (w0 w:cA):Prop where
 low:Below w0.heap.size w0 w
 cfg:w.heap[w0.heap.size]?=M (O #[V I k.nodes,V I k.blocks,V I k.tokens,V I k.sets,V I k.ways,V I k.cap,V I k.wait,V I k.tries,V I pv] 23 (0,0))
 dr:w.heap[w0.heap.size+1]?=M (O dd 63 (0,0))
 own:OwnE logE (J A L.length cp) L w
 far:∀ x∈foot (J A L.length cp),w0.heap.size≤x
 log:LogI L E w
theorem PolI.below {k:Cfg} {dd:Array Value} {E:List S.Done} {L:List SlR} {A:Option Addr} {cp:Nat} {pv:Int} {w0 w w':cA} (h:PolI k dd E L A cp pv w0 w) (hb:Below w.heap.size w w'):PolI k dd E L A cp pv w0 w' :=
 ⟨h.low.trans (hb.mono h.low.size),kA h.cfg hb,kA h.dr hb,h.own.ks (pB (fun _=>False) hb) (fun _ _=>id),h.far,h.log.below hb⟩
theorem PolI.setp {k:Cfg} {dd:Array Value} {E:List S.Done} {L:List SlR} {A:Option Addr} {cp:Nat} {pv:Int} {w0 w:cA} (h:PolI k dd E L A cp pv w0 w) (q:Int):PolI k dd E L A cp q w0 (w.setCell ⟨w0.heap.size,8,U⟩ (V I q)):=by
 have hk:KS (fun x=>x=w0.heap.size) w (w.setCell ⟨w0.heap.size,8,U⟩ (V I q)):=KS.set (F:=fun x=>x=w0.heap.size) (qB _ _) (.inl rfl) 8 _
 refine⟨oA h.low (pA _) _,mA h.cfg 8 (V I q),(Below.heap_setCell _ ⟨w0.heap.size,8,U⟩ _ (w0.heap.size+1) (by show w0.heap.size+1≠w0.heap.size;omega)).trans h.dr,h.own.ks hk (fun x hx e=>?_),h.far,h.log.ks hk (fun x e=>by
  have e':x=w0.heap.size:=e
  subst e'
  exact⟨_,23,h.cfg,yB⟩)⟩
 have e':x=w0.heap.size:=e
 exact own_apart_blk h.own h.cfg yB (e' ▸ hx)
theorem own_blkT {α:Type} {E:El α} {v:Value} {xs:List α} {W:cA} (h:OwnE E v xs W) {x:Nat} (hx:x∈foot v):∃ arr,W.heap[x]?=M (O arr E.T (0,0)):=by
 rcases h.cases with ⟨rfl,-⟩ | ⟨g',cap,cur,rfl,hg,-⟩
 ·simp[foot_nil] at hx
 ·simp only[foot_slice,tA] at hx
  exact⟨cur,by rw[hx];exact hg⟩
theorem PolI.ks33 {k:Cfg} {dd:Array Value} {E:List S.Done} {L:List SlR} {A:Option Addr} {cp:Nat} {pv:Int} {w0 w w':cA} {G:Set_} (h:PolI k dd E L A cp pv w0 w) (hk:KS G w w') (hG:∀ x,G x->w0.heap.size≤x/\∃ arr,w.heap[x]?=M (O arr 33 (0,0))):PolI k dd E L A cp pv w0 w':=by
 refine⟨h.low.trans (hk.toBelow (fun x hx=>(hG x hx).1) h.low.size),hk.at_ h.cfg (fun g=>?_),hk.at_ h.dr (fun g=>?_),h.own.ks hk (fun x hx g=>?_),h.far,h.log.ks hk (fun x g=>?_)⟩
 ·obtain⟨-,arr,e⟩:=hG _ g
  rw[h.cfg] at e;simp at e
 ·obtain⟨-,arr,e⟩:=hG _ g
  rw[h.dr] at e;simp at e
 ·obtain⟨-,arr,e⟩:=hG _ g
  exact own_apart_blk h.own e yB hx
 ·obtain⟨-,arr,e⟩:=hG _ g
  exact⟨arr,33,e,yB⟩
theorem PolI.more {k:Cfg} {dd:Array Value} {E:List S.Done} {L:List SlR} {A A':Option Addr} {cp cp':Nat} {pv:Int} {w0 w w':cA} {r:SlR} {ds:List S.Done} (h:PolI k dd E L A cp pv w0 w) (hk:KS (fun x=>x∈foot (J A L.length cp)) w w') (hO:OwnE logE (J A' (L ++ [r]).length cp') (L ++ [r]) w') (hf:∀ x∈foot (J A' (L ++ [r]).length cp'),w0.heap.size≤x)
  (h1:ds.length=r.n) (h2:r.n≤900000) (h3:OwnE doneE (J r.A r.n r.c) ds w) (h4:ds.map strip=E):PolI k dd E (L ++ [r]) A' cp' pv w0 w':=by
 have hT:∀ x,x∈foot (J A L.length cp)->∃ arr,w.heap[x]?=M (O arr 34 (0,0)):=fun x hx=>own_blkT h.own hx
 refine⟨h.low.trans (hk.toBelow h.far h.low.size),hk.at_ h.cfg (fun g=>?_),hk.at_ h.dr (fun g=>?_),hO,hf,fun q hq=>?_⟩
 ·obtain⟨arr,e⟩:=hT _ g
  rw[h.cfg] at e;simp at e
 ·obtain⟨arr,e⟩:=hT _ g
  rw[h.dr] at e;simp at e
 ·have hl:=h.log.ks hk (fun x hx=>by
   obtain⟨arr,e⟩:=hT x hx
   exact⟨arr,34,e,yB⟩)
  rcases List.mem_append.1 hq with z | z
  ·exact hl q z
  ·rw[List.mem_singleton.1 z]
   refine⟨ds,h1,h2,h3.ks hk (fun x hx g=>?_),h4⟩
   obtain⟨arr,e⟩:=hT x g
   exact own_apart_blk h3 e yB hx
theorem script_pol {c:Cfg} (hS:Small c) {w:cA} (y0 y1 y2:Int) (ops:List Ent) (hk:∀ e∈ops,e.kind=1) (hl:ops.length≤12) {Ao:Option Addr} {co:Nat} (hO:OwnE entE (J Ao ops.length co) ops w) :
  bB dA 13 #[cfgV c,.agg #[V I y0,V I y1,V I y2],J Ao ops.length co] w fun e w'=>∃ (ls:List Ent) (A:Option Addr) (cp:Nat),e=.returned (.tuple #[J A ls.length cp,aA true])/\OwnE entE (J A ls.length cp) ls w'/\ls.length≤6000/\(runL c ls).2.2.map strip=expL (fun e=>e.legal c) ops (fun _=>0) (fun _=>0)/\Below w.heap.size w w':=by
 obtain⟨ls,h1,h2,h3⟩:=script_run hS ⟨y0,y1,y2⟩ ops hk hl
 refine(script_any hS.ok y0 y1 y2 ops hO hl).mono ?_
 rintro e w' ⟨A,cp,he,hO',hb⟩
 rw[h1] at he hO'
 exact⟨ls,A,cp,he,hO',h2,h3,hb⟩
theorem run_pol {c:Cfg} (hc:c.check=0) (ls:List Ent) (hl:ls.length≤6000) {A:Option Addr} {cp:Nat} {w:cA} (hO:OwnE entE (J A ls.length cp) ls w) :
  bB dA 14 #[cfgV c,J A ls.length cp] w fun e w'=>∃ Ar nr cr Ad nd cd st ti Ap np cq Ah nh ch Af nf cf,e=.returned (.tuple #[.agg #[J Ar nr cr,J Ad nd cd,V I st,V I ti,J Ap np cq,J Ah nh ch,J Af nf cf],V I 0])/\OwnE doneE (J Ad nd cd) (runL c ls).2.2 w'/\(runL c ls).2.2.length=nd/\nd≤900000/\Below w.heap.size w w':=by
 refine(run_any c hc ls vB hO).mono ?_
 rintro e w' ⟨Ar,cr,Ad,cd,Ap,Ah,Af,np,cq,nh,ch,nf,cf,ps,he,-,h2,-,h4⟩
 have h5:=(runL_ok hc ls vB ls.length (pA _)).2.2.2
 rw[List.take_length] at h5
 exact⟨Ar,_,cr,Ad,_,cd,_,_,Ap,np,cq,Ah,nh,ch,Af,nf,cf,he,h2,rfl,vB,h4⟩
def onlyL (l:List Ent):List Ent:=l.filter fun e=>e.kind == 1
theorem onlyL_kind (l:List Ent):∀ e∈onlyL l,e.kind=1:=fun e he=>by
 have:=(List.mem_filter.1 he).2
 simpa using this
theorem onlyL_len (l:List Ent) (i:Nat):(onlyL (l.take i)).length≤l.length:=lB (List.length_filter_le _ _) (by simp;omega)
theorem entry_at5 {l:List Ent} {A:Option Addr} {w:cA} (h:RowE entE w A l) {i:Nat} (hi:i < l.length):∃ ad,A=M ad/\w.cell? (ad.add (i * 5))=M (V I (l.getD i ent0).kind)/\w.cell? ⟨(ad.add (i * 5)).block,(ad.add (i * 5)).off+1,U⟩=M (V I (l.getD i ent0).a)/\w.cell? ⟨(ad.add (i * 5)).block,(ad.add (i * 5)).off+2,U⟩=M (V I (l.getD i ent0).b)/\w.cell? ⟨(ad.add (i * 5)).block,(ad.add (i * 5)).off+3,U⟩=M (V I (l.getD i ent0).c)/\w.cell? ⟨(ad.add (i * 5)).block,(ad.add (i * 5)).off+4,U⟩=M (V I (l.getD i ent0).d):=by
 obtain⟨ad,rfl,hc⟩:=h i hi
 have d0:=hc 0 yB
 have d1:=hc 1 yB
 have d2:=hc 2 yB
 have d3:=hc 3 yB
 have d4:=hc 4 yB
 rw[show entE.k=5 from rfl] at d0 d1 d2 d3 d4
 rw[<- Go.Deep.add_add] at d1 d2 d3 d4
 have e:∀ j,j≠0->(ad.add (i * 5)).add j=⟨(ad.add (i * 5)).block,(ad.add (i * 5)).off+j,U⟩:=fun j hj=>by simp[Addr.add,hj]
 rw[e _ yB] at d1 d2 d3 d4
 exact⟨ad,rfl,d0,d1,d2,d3,d4⟩
theorem onlyL_snoc (l:List Ent) {i:Nat} (h:i < l.length):onlyL (l.take (i+1))=if (l.getD i ent0).kind == 1 then onlyL (l.take i) ++ [l.getD i ent0] else onlyL (l.take i):=by
 unfold onlyL
 rw[List.take_add_one,dB h,List.filter_append,cB,dB h]
 simp only[Option.toList_some,Option.getD_some,List.filter_cons,List.filter_nil]
 split <;> simp
theorem small_of {c:Cfg} {n:Nat} (h1:c.check=0) (h2:great22 c n=false) (h3:20000≤c.cap) (p:Int) (hp:0≤p/\p≤2):Small { c with policy:=p }:=by
 unfold great22 at h2
 simp only[Bool.or_eq_false_iff,decide_eq_false_iff_not] at h2
 obtain⟨⟨⟨⟨⟨-,g2⟩,-⟩,g4⟩,g5⟩,g6⟩:=h2
 obtain⟨a1,a2,a3,a4,a5,a6,a7,a8,a9,a10,-,-,a13,a14,a15,a16,a17,a18⟩:=check_ok h1
 have w1:∀ x lo hi:Int,lo≤x->x≤hi->within x lo hi=true:=fun x lo hi h1 h2=>by unfold within;rw[decide_eq_true (show x≥lo from h1),decide_eq_true h2];rfl
 refine⟨?_,by show c.nodes≤4;omega,by show c.wait≤3;omega,by show c.tries≤3;omega,h3⟩
 unfold Cfg.check
 simp only[w1 _ _ _ a1 a2,w1 _ _ _ a3 a4,w1 _ _ _ a5 a6,w1 _ _ _ a7 a8,w1 _ _ _ a9 a10,w1 _ _ _ hp.1 hp.2,w1 _ _ _ a13 a14,w1 _ _ _ a15 a16,w1 _ _ _ a17 a18]
 rfl
theorem ix0 (x0 x1 x2 x3 x4 x5:Int) (wr:cA):(Instr.index 63 (.agg #[V I x0,V I x1,V I x2,V I x3,V I x4,V I x5]) (V I ((0:Nat):Int))).run dA wr=.ok (.agg #[V I x0,V I x1,V I x2]) wr:=by
 kernel_rfl
theorem ix1 (x0 x1 x2 x3 x4 x5:Int) (wr:cA):(Instr.index 63 (.agg #[V I x0,V I x1,V I x2,V I x3,V I x4,V I x5]) (V I ((1:Nat):Int))).run dA wr=.ok (.agg #[V I x3,V I x4,V I x5]) wr:=by
 kernel_rfl
theorem ixj (x0 x1 x2 x3 x4 x5:Int) {j:Nat} (h:j < 2):∃ y0 y1 y2:Int,∀ wr:cA,(Instr.index 63 (.agg #[V I x0,V I x1,V I x2,V I x3,V I x4,V I x5]) (V I (j:Int))).run dA wr=.ok (.agg #[V I y0,V I y1,V I y2]) wr:=by
 have e:j=0∨j=1:=vB
 rcases e with rfl | rfl
 ·exact⟨x0,x1,x2,fun wr=>ix0 x0 x1 x2 x3 x4 x5 wr⟩
 ·exact⟨x3,x4,x5,fun wr=>ix1 x0 x1 x2 x3 x4 x5 wr⟩
theorem policies_any (c:Cfg) (l:List Ent) (x0 x1 x2 x3 x4 x5:Int) {A:Option Addr} {lc:Nat} {w:cA} (hR:RowE entE w A l):bB dA 5 #[cfgV c,J A l.length lc,.agg #[V I x0,V I x1,V I x2,V I x3,V I x4,V I x5]] w (RV (aA true) w):=by
 have RR:=AS hR
 clear hR
 simp only[cfgV]
 go_enter Tryz.func5,Tryz.ntmps5
 go_upto_region 2 with fail
 have hkc:20000≤max c.cap 20000:=vB
 generalize max c.cap 20000=kc at hkc ⊢
 have KC0:=AS hkc
 clear hkc
 obtain⟨k,hk⟩:∃ k:Cfg,k={ c with cap:=kc }:=⟨_,rfl⟩
 have KC:=AS (show 20000≤k.cap from by rw[hk];exact KC0.out)
 have X0:=AS (show((w.alloc (O #[V I c.nodes,V I c.blocks,V I c.tokens,V I c.sets,V I c.ways,V I kc,V I c.wait,V I c.tries,V I c.policy] 23)).alloc (O #[V I x0,V I x1,V I x2,V I x3,V I x4,V I x5] 63)).heap[w.heap.size]?=M (O #[V I k.nodes,V I k.blocks,V I k.tokens,V I k.sets,V I k.ways,V I k.cap,V I k.wait,V I k.tries,V I k.policy] 23 (0,0)) from by
  rw[hk];exact lA (nA w (O #[V I c.nodes,V I c.blocks,V I c.tokens,V I c.sets,V I c.ways,V I kc,V I c.wait,V I c.tries,V I c.policy] 23)) (O #[V I x0,V I x1,V I x2,V I x3,V I x4,V I x5] 63))
 have BD0:=AS (show((w.alloc (O #[V I c.nodes,V I c.blocks,V I c.tokens,V I c.sets,V I c.ways,V I kc,V I c.wait,V I c.tries,V I c.policy] 23)).alloc (O #[V I x0,V I x1,V I x2,V I x3,V I x4,V I x5] 63)).heap[w.heap.size+1]?=M (O #[V I x0,V I x1,V I x2,V I x3,V I x4,V I x5] 63 (0,0)) from blk_newE _ _ (by rw[rA]))
 have B0:=AS (show Below w.heap.size w ((w.alloc (O #[V I c.nodes,V I c.blocks,V I c.tokens,V I c.sets,V I c.ways,V I kc,V I c.wait,V I c.tries,V I c.policy] 23)).alloc (O #[V I x0,V I x1,V I x2,V I x3,V I x4,V I x5] 63)) from eA (eA (fA _ _) _) _)
 have PL1:=AS (fun X=>rconfig_any k X)
 have PL2:=AS (fun X=>great22_any k A l.length lc X)
 simp only[cfgV] at PL1 PL2
 clear hk
 generalize (w.alloc (O #[V I c.nodes,V I c.blocks,V I c.tokens,V I c.sets,V I c.ways,V I kc,V I c.wait,V I c.tries,V I c.policy] 23)).alloc (O #[V I x0,V I x1,V I x2,V I x3,V I x4,V I x5] 63)=W at X0 BD0 B0 ⊢
 go_wp2_with fail
 refine(live_any W).mono ?_
 rintro e w1 ⟨rfl,hb1⟩
 have X1:=AS (kA X0.out hb1)
 have BD1:=AS (kA BD0.out hb1)
 have B1:=AS (B0.out.trans (hb1.mono B0.out.size))
 clear hb1 X0 BD0 B0
 have e0:=cw X1.out 0 (v:=V I k.nodes)
 have e1:=cw X1.out 1 (v:=V I k.blocks)
 have e2:=cw X1.out 2 (v:=V I k.tokens)
 have e3:=cw X1.out 3 (v:=V I k.sets)
 have e4:=cw X1.out 4 (v:=V I k.ways)
 have e5:=cw X1.out 5 (v:=V I k.cap)
 have e6:=cw X1.out 6 (v:=V I k.wait)
 have e7:=cw X1.out 7 (v:=V I k.tries)
 have e8:=cw X1.out 8 (v:=V I k.policy)
 go_wp2_with fail
 refine(PL1.out w1).mono ?_
 rintro e w2 ⟨rfl,hb2⟩
 have X2:=AS (kA X1.out hb2)
 have BD2:=AS (kA BD1.out hb2)
 have B2:=AS (B1.out.trans (hb2.mono B1.out.size))
 clear hb2 X1 BD1 B1 e0 e1 e2 e3 e4 e5 e6 e7 e8
 have e0:=cw X2.out 0 (v:=V I k.nodes)
 have e1:=cw X2.out 1 (v:=V I k.blocks)
 have e2:=cw X2.out 2 (v:=V I k.tokens)
 have e3:=cw X2.out 3 (v:=V I k.sets)
 have e4:=cw X2.out 4 (v:=V I k.ways)
 have e5:=cw X2.out 5 (v:=V I k.cap)
 have e6:=cw X2.out 6 (v:=V I k.wait)
 have e7:=cw X2.out 7 (v:=V I k.tries)
 have e8:=cw X2.out 8 (v:=V I k.policy)
 obtain⟨cv,hcv⟩:∃ cv,k.check=cv:=⟨_,rfl⟩
 rw[hcv]
 by_cases hc:cv=0
 case neg =>
  have h1:(cv != 0)=true:=by simp[hc]
  have h2:(cv == 0)=false:=by simp[hc]
  clear hc hcv
  go_wp2_with fail
  refine(live_any w2).mono ?_
  rintro e w9 ⟨rfl,hb9⟩
  have B9:=AS (B2.out.trans (hb9.mono B2.out.size))
  clear hb9
  go_wp2
  go_ret
  exact⟨rfl,B9.out⟩
 subst hc
 have HC:=AS hcv
 clear hcv
 go_wp2_with fail
 refine(PL2.out w2).mono ?_
 rintro e w3 ⟨rfl,hb3⟩
 have X3:=AS (kA X2.out hb3)
 have BD3:=AS (kA BD2.out hb3)
 have B3:=AS (B2.out.trans (hb3.mono B2.out.size))
 clear hb3 X2 BD2 B2 e0 e1 e2 e3 e4 e5 e6 e7 e8
 cases hg:great22 k l.length
 case true =>
  clear hg
  go_wp2_with fail
  refine(live_any w3).mono ?_
  rintro e w9 ⟨rfl,hb9⟩
  have B9:=AS (B3.out.trans (hb9.mono B3.out.size))
  clear hb9
  go_wp2
  go_ret
  exact⟨rfl,B9.out⟩
 have HG:=AS hg
 clear hg
 by_cases hl:10 < l.length
 ·have hl':(10:Int) < (l.length:Int):=vB
  go_wp2_with fail
  refine(live_any w3).mono ?_
  rintro e w9 ⟨rfl,hb9⟩
  have B9:=AS (B3.out.trans (hb9.mono B3.out.size))
  clear hb9
  go_wp2
  go_ret
  exact⟨rfl,B9.out⟩
 have HL:=AS (show l.length≤10 from by omega)
 have hl':(l.length:Int)≤10:=vB
 go_wp2_with fail
 obtain⟨E,hE⟩:∃ E,expL (fun e=>e.legal k) (onlyL l) (fun _=>0) (fun _=>0)=E:=⟨_,rfl⟩
 have HE:=AS hE
 clear hE
 have P3:=AS (show PolI k #[V I x0,V I x1,V I x2,V I x3,V I x4,V I x5] E [] U 0 k.policy w w3 from⟨B3.out,X3.out,BD3.out,OwnE.nil _,fun x hx=>by simp[foot_nil] at hx,fun r hr=>by cases hr⟩)
 clear X3 BD3 B3
 go_loopw [7,8,10,11,13,14,15,16,17] (fun v7 v8 v10 v11 v13 v14 v15 v16 v17 wr=>∃ (p:Nat) (L:List SlR) (A9:Option Addr) (cp:Nat),v8=V I p/\p≤3/\v7=J A9 L.length cp/\Aside0 (L.length=2 * p/\∃ pv,PolI k #[V I x0,V I x1,V I x2,V I x3,V I x4,V I x5] E L A9 cp pv w wr)) (fun _ v8 _ _ _ _ _ _ _ _=>4 - (intOf v8).toNat)
 case atStart=>exact⟨0,[],U,0,rfl,vB,rfl,⟨rfl,_,P3.out⟩⟩
 case round =>
  obtain⟨p,L,A9,cp,rfl,hp,rfl,R⟩:=hrel
  by_cases hcc:p≤2
  ·have q0:(0:Int)≤(p:Int):=vB
   have q1:(p:Int)≤2:=vB
   obtain⟨r1,pv,r2⟩:=R.out
   have HLL:=AS r1
   have P4:=AS r2
   have dr:=r2.dr
   have z0:=cw dr 0 (v:=V I x0)
   have z1:=cw dr 1 (v:=V I x1)
   have z2:=cw dr 2 (v:=V I x2)
   have z3:=cw dr 3 (v:=V I x3)
   have z4:=cw dr 4 (v:=V I x4)
   have z5:=cw dr 5 (v:=V I x5)
   clear r1 r2 R dr
   go_wp2_with fail
   go_loopw [7,10,11,13,14,15,16,17,47] (fun v7 v10 v11 v13 v14 v15 v16 v17 v47 wr=>∃ (j:Nat) (L:List SlR) (A9:Option Addr) (cp:Nat),v47=V I j/\j≤2/\v7=J A9 L.length cp/\Aside0 (L.length=2 * p+j/\∃ pv,PolI k #[V I x0,V I x1,V I x2,V I x3,V I x4,V I x5] E L A9 cp pv w wr)) (fun _ _ _ _ _ _ _ _ v47 _=>3 - (intOf v47).toNat)
   case atStart=>exact⟨0,L,A9,cp,rfl,vB,rfl,⟨HLL.out,_,P4.out⟩⟩
   case round =>
    clear z0 z1 z2 z3 z4 z5 HLL P4
    obtain⟨j,L1,A1,cp1,rfl,hj,rfl,R⟩:=hrel
    obtain⟨r1,pv1,r2⟩:=R.out
    have HLL:=AS r1
    have P5:=AS r2
    clear r1 r2 R
    by_cases hjj:j < 2
    ·have s0:(0:Int)≤(j:Int):=vB
     have s1:(j:Int) < 2:=vB
     obtain⟨y0,y1,y2,hix⟩:=ixj x0 x1 x2 x3 x4 x5 hjj
     have hix0:=hix wr
     clear hix
     have BY:=AS (eA (fA wr.heap.size wr) (O #[V I y0,V I y1,V I y2] 62))
     have Y6:=AS (nA wr (O #[V I y0,V I y1,V I y2] 62))
     have P6:=AS (P5.out.below BY.out)
     have hz0:=P5.out.low.size
     have HQ:=AS (show w.heap.size+1 < wr.heap.size from eB P5.out.dr)
     clear hz0
     go_upto_region 11 with fail
     generalize wr.alloc (O #[V I y0,V I y1,V I y2] 62)=W6 at BY Y6 P6 ⊢
     generalize wr.heap.size=qy at BY Y6 HQ ⊢
     clear P5 hix0
     have c8:=cw P6.out.cfg 8 (v:=V I pv1)
     have f8:=jA P6.out.cfg 8
     have P7:=AS (P6.out.setp p)
     have Y7:=AS (show(W6.setCell ⟨w.heap.size,8,U⟩ (V I p)).heap[qy]?=M (O #[V I y0,V I y1,V I y2] 62 (0,0)) from(Below.heap_setCell _ ⟨w.heap.size,8,U⟩ _ qy (by have:=HQ.out;show qy≠w.heap.size;omega)).trans Y6.out)
     clear P6 Y6 BY
     go_upto_region 13 with fail
     generalize W6.setCell ⟨w.heap.size,8,U⟩ (V I p)=W7 at P7 Y7 ⊢
     clear c8 f8
     go_wp2_with fail
     have O7:=AS (show PolI k #[V I x0,V I x1,V I x2,V I x3,V I x4,V I x5] E L1 A1 cp1 p w W7/\W7.heap[qy]?=M (O #[V I y0,V I y1,V I y2] 62 (0,0))/\OwnE entE (J U 0 0) (onlyL (l.take 0)) W7/\(∀ x∈foot (J U 0 0),w.heap.size≤x) from⟨P7.out,Y7.out,OwnE.nil _,fun x hx=>by simp[foot_nil] at hx⟩)
     go_loopw [11,13,54] (fun v11 v13 v54 wr=>∃ (i:Nat) (A3:Option Addr) (cp3:Nat),v54=V I i/\i≤l.length/\v11=J A3 (onlyL (l.take i)).length cp3/\Aside0 (PolI k #[V I x0,V I x1,V I x2,V I x3,V I x4,V I x5] E L1 A1 cp1 p w wr/\wr.heap[qy]?=M (O #[V I y0,V I y1,V I y2] 62 (0,0))/\OwnE entE (J A3 (onlyL (l.take i)).length cp3) (onlyL (l.take i)) wr/\(∀ x∈foot (J A3 (onlyL (l.take i)).length cp3),w.heap.size≤x))) (fun _ _ v54 _=>l.length+1 - (intOf v54).toNat)
     case atStart=>exact⟨0,U,0,rfl,vB,rfl,O7⟩
     case round =>
      clear P7 Y7 O7
      obtain⟨i,A3,cp3,rfl,hi,rfl,R⟩:=hrel
      obtain⟨r1,r2,r3,r4⟩:=R.out
      by_cases hii:i < l.length
      ·obtain⟨ad,rfl,g0,g1,g2,g3,g4⟩:=entry_at5 RR.out hii
       have q0:(0:Int)≤(i:Int):=vB
       have q1:(i:Int) < (l.length:Int):=vB
       have m0:=(r1.low.cell (World.block_lt_of_cell? w _ g0)).trans g0
       have m1:=(r1.low.cell (World.block_lt_of_cell? w _ g1)).trans g1
       have m2:=(r1.low.cell (World.block_lt_of_cell? w _ g2)).trans g2
       have m3:=(r1.low.cell (World.block_lt_of_cell? w _ g3)).trans g3
       have m4:=(r1.low.cell (World.block_lt_of_cell? w _ g4)).trans g4
       clear g0 g1 g2 g3 g4
       have SN:=onlyL_snoc l hii
       obtain⟨en,hen⟩:∃ en,l.getD i ent0=en:=⟨_,rfl⟩
       rw[hen] at m0 m1 m2 m3 m4 SN
       clear hen
       obtain⟨k_,a_,b_,c_,d_⟩:=en
       simp only at m0 m1 m2 m3 m4 SN
       have BX:=AS (eA (fA wr.heap.size wr) (O #[V I k_,V I a_,V I b_,V I c_,V I d_] 33))
       have P8:=AS (r1.below BX.out)
       have Y8:=AS (kA r2 BX.out)
       have O8:=AS (r3.ks (pB (fun _=>False) BX.out) (fun _ _=>id))
       have F8:=AS r4
       have XB:=AS (nA wr (O #[V I k_,V I a_,V I b_,V I c_,V I d_] 33))
       have SN8:=AS SN
       clear r1 r2 r3 r4 R SN
       go_upto_region 16 with fail
       generalize wr.alloc (O #[V I k_,V I a_,V I b_,V I c_,V I d_] 33)=W8 at BX P8 Y8 O8 XB ⊢
       generalize wr.heap.size=qe at XB ⊢
       have x0_:=cw XB.out 0 (v:=V I k_)
       have x1_:=cw XB.out 1 (v:=V I a_)
       have x2_:=cw XB.out 2 (v:=V I b_)
       have x3_:=cw XB.out 3 (v:=V I c_)
       have x4_:=cw XB.out 4 (v:=V I d_)
       clear m0 m1 m2 m3 m4 BX
       cases hk1:(k_ == 1)
       ·have SN9:=AS (show onlyL (l.take (i+1))=onlyL (l.take i) from by rw[SN8.out,hk1];rfl)
        have E9:=AS (show PolI k #[V I x0,V I x1,V I x2,V I x3,V I x4,V I x5] E L1 A1 cp1 p w W8/\W8.heap[qy]?=M (O #[V I y0,V I y1,V I y2] 62 (0,0))/\OwnE entE (J A3 (onlyL (l.take i)).length cp3) (onlyL (l.take i)) W8/\(∀ x∈foot (J A3 (onlyL (l.take i)).length cp3),w.heap.size≤x) from⟨P8.out,Y8.out,O8.out,F8.out⟩)
        have hk2:(k_ != 1)=true:=by simp[bne,hk1]
        clear P8 Y8 O8 F8 SN8
        go_wp2
        go_roundw
        case rel=>exact⟨i+1,A3,cp3,by go_num,vB,by rw[SN9.out],⟨by rw[SN9.out];exact E9.out⟩⟩
        case measure=>simp[intOf];omega
       ·have SN9:=AS (show onlyL (l.take (i+1))=onlyL (l.take i) ++ [⟨k_,a_,b_,c_,d_⟩] from by rw[SN8.out,hk1];rfl)
        have BW:=AS (eA (fA W8.heap.size W8) (O #[V I k_,V I a_,V I b_,V I c_,V I d_] 33))
        have OA:=AS (show OwnE entE (J A3 (onlyL (l.take i)).length cp3) (onlyL (l.take i)) (W8.alloc (O #[V I k_,V I a_,V I b_,V I c_,V I d_] 33)) from O8.out.ks (pB (fun _=>False) BW.out) (fun _ _=>id))
        have RA:=AS (show RowE entE (W8.alloc (O #[V I k_,V I a_,V I b_,V I c_,V I d_] 33)) (M ⟨W8.heap.size,0,U⟩) [(⟨k_,a_,b_,c_,d_⟩:Ent)] from rowE_one (E:=entE) (x:=(⟨k_,a_,b_,c_,d_⟩:Ent)) (nA W8 (O #[V I k_,V I a_,V I b_,V I c_,V I d_] 33)))
        have HB:=AS (show(onlyL (l.take i)).length≤10 from lB (onlyL_len l i) HL.out)
        have FIR:=AS (show ∀ v1 w6,OwnE entE v1 (onlyL (l.take i) ++ [(⟨k_,a_,b_,c_,d_⟩:Ent)]) w6->Keeps (foot (J A3 (onlyL (l.take i)).length cp3)) (W8.alloc (O #[V I k_,V I a_,V I b_,V I c_,V I d_] 33)) w6->(foot v1=foot (J A3 (onlyL (l.take i)).length cp3)∨foot v1=[(W8.alloc (O #[V I k_,V I a_,V I b_,V I c_,V I d_] 33)).heap.size])->∃ A4 k4,v1=J A4 (onlyL (l.take (i+1))).length k4/\(PolI k #[V I x0,V I x1,V I x2,V I x3,V I x4,V I x5] E L1 A1 cp1 p w w6/\w6.heap[qy]?=M (O #[V I y0,V I y1,V I y2] 62 (0,0))/\OwnE entE (J A4 (onlyL (l.take (i+1))).length k4) (onlyL (l.take (i+1))) w6/\(∀ x∈foot (J A4 (onlyL (l.take (i+1))).length k4),w.heap.size≤x)) from fun v1 w6 hO hK hf=>by
         have hk3:KS (fun x=>x∈foot (J A3 (onlyL (l.take i)).length cp3)) (W8.alloc (O #[V I k_,V I a_,V I b_,V I c_,V I d_] 33)) w6:=KS.keeps hK
         rw[<- SN9.out] at hO
         obtain⟨A4,k4,hv,-⟩:=hO.row
         have hT:∀ x,x∈foot (J A3 (onlyL (l.take i)).length cp3)->∃ arr,(W8.alloc (O #[V I k_,V I a_,V I b_,V I c_,V I d_] 33)).heap[x]?=M (O arr 33 (0,0)):=fun x hx=>own_blkT OA.out hx
         refine⟨A4,k4,hv,(P8.out.below BW.out).ks33 hk3 (fun x hx=>⟨F8.out x hx,hT x hx⟩),hk3.at_ (kA Y8.out BW.out) (fun g=>?_),hv ▸ hO,fun x hx=>?_⟩
         ·obtain⟨arr,e⟩:=hT _ g
          rw[kA Y8.out BW.out] at e;simp at e
         ·rw[<- hv] at hx
          rcases hf with e | e
          ·rw[e] at hx;exact F8.out x hx
          ·rw[e] at hx
           simp only[tA,rA] at hx
           have:=P8.out.low.size
           omega)
        clear P8 Y8 O8 F8 SN8 BW
        go_upto_region 17 with fail
        go_wp2_with (first | (at_builtin;refine list_appE (E:=entE) (xs:=onlyL (l.take i)) (ys:=[(⟨k_,a_,b_,c_,d_⟩:Ent)]) xB _ _ rfl rfl rfl rfl (by exact OA.out) (by exact RA.out) (by show _ * 40≤_;simp;have h6:=HB.out;omega) ?_;intro v1 w6 hO hK hf;obtain⟨A4,k4,rfl,hFI⟩:=FIR.out v1 w6 hO hK hf;have FI:=AS hFI;clear hO hK hf hFI) | fail)
        go_roundw
        case rel=>exact⟨i+1,A4,k4,by go_num,vB,rfl,FI⟩
        case measure=>simp[intOf];omega
      ·have hin:i=l.length:=vB
       subst hin
       rw[List.take_length] at r3 r4 ⊢
       have P9:=AS r1
       have O9:=AS r3
       have y0_:=cw r2 0 (v:=V I y0)
       have y1_:=cw r2 1 (v:=V I y1)
       have y2_:=cw r2 2 (v:=V I y2)
       have hol:(onlyL l).length≤l.length:=by have:=onlyL_len l l.length;rw[List.take_length] at this;exact this
       have SM:=AS (small_of HC.out HG.out KC.out p ⟨vB,vB⟩)
       have SP:=AS (script_pol SM.out y0 y1 y2 (onlyL l) (onlyL_kind l) (by have:=HL.out;omega) O9.out)
       simp only[cfgV] at SP
       clear r1 r2 r3 r4 R hol
       have e0:=cw P9.out.cfg 0 (v:=V I k.nodes)
       have e1:=cw P9.out.cfg 1 (v:=V I k.blocks)
       have e2:=cw P9.out.cfg 2 (v:=V I k.tokens)
       have e3:=cw P9.out.cfg 3 (v:=V I k.sets)
       have e4:=cw P9.out.cfg 4 (v:=V I k.ways)
       have e5:=cw P9.out.cfg 5 (v:=V I k.cap)
       have e6:=cw P9.out.cfg 6 (v:=V I k.wait)
       have e7:=cw P9.out.cfg 7 (v:=V I k.tries)
       have e8:=cw P9.out.cfg 8 (v:=V I p)
       generalize hol:(onlyL l).length=on at O9 SP ⊢
       clear hol
       go_wp2_with fail
       refine SP.out.mono ?_
       rintro e w10 ⟨ls,A5,cp5,rfl,hO,hl6,hst,hb⟩
       have P10:=AS (P9.out.below hb)
       have ST:=AS (hst.trans HE.out)
       have RP:=AS (run_pol SM.out.ok ls hl6 hO)
       simp only[cfgV] at RP
       clear hO hl6 hst hb SP P9 O9 y0_ y1_ y2_ e0 e1 e2 e3 e4 e5 e6 e7 e8
       have e0:=cw P10.out.cfg 0 (v:=V I k.nodes)
       have e1:=cw P10.out.cfg 1 (v:=V I k.blocks)
       have e2:=cw P10.out.cfg 2 (v:=V I k.tokens)
       have e3:=cw P10.out.cfg 3 (v:=V I k.sets)
       have e4:=cw P10.out.cfg 4 (v:=V I k.ways)
       have e5:=cw P10.out.cfg 5 (v:=V I k.cap)
       have e6:=cw P10.out.cfg 6 (v:=V I k.wait)
       have e7:=cw P10.out.cfg 7 (v:=V I k.tries)
       have e8:=cw P10.out.cfg 8 (v:=V I p)
       generalize hls:ls.length=ln at RP ⊢
       clear hls
       go_wp2_with fail
       refine RP.out.mono ?_
       rintro e w11 ⟨Ar,nr,cr,Ad,nd,cd,st,ti,Ap,np,cq,Ah,nh,ch,Af,nf,cf,rfl,hD,hn,hn9,hb⟩
       have BB:=AS (eA (fA w11.heap.size w11) (O #[J Ar nr cr,J Ad nd cd,V I st,V I ti,J Ap np cq,J Ah nh ch,J Af nf cf] 69))
       have P11:=AS ((P10.out.below hb).below BB.out)
       have D11:=AS (hD.ks (pB (fun _=>False) BB.out) (fun _ _=>id))
       have XX:=AS (nA w11 (O #[J Ar nr cr,J Ad nd cd,V I st,V I ti,J Ap np cq,J Ah nh ch,J Af nf cf] 69))
       have HN:=AS hn
       have HN9:=AS hn9
       clear hD hn hn9 hb RP P10 e0 e1 e2 e3 e4 e5 e6 e7 e8
       go_upto_region 23 with fail
       generalize w11.alloc (O #[J Ar nr cr,J Ad nd cd,V I st,V I ti,J Ap np cq,J Ah nh ch,J Af nf cf] 69)=W12 at BB P11 D11 XX ⊢
       generalize w11.heap.size=qx at BB XX ⊢
       have z1_:=cw XX.out 1 (v:=J Ad nd cd)
       have BW:=AS (eA (fA W12.heap.size W12) (O #[J Ad nd cd] 34))
       have P12:=AS (P11.out.below BW.out)
       have RA:=AS (show RowE logE (W12.alloc (O #[J Ad nd cd] 34)) (M ⟨W12.heap.size,0,U⟩) [(⟨Ad,nd,cd⟩:SlR)] from rowE_one (E:=logE) (x:=(⟨Ad,nd,cd⟩:SlR)) (nA W12 (O #[J Ad nd cd] 34)))
       have OA:=AS P12.out.own
       have HB:=AS (show L1.length≤10 from by have:=HLL.out;omega)
       have FIR:=AS (show ∀ v1 w6,OwnE logE v1 (L1 ++ [(⟨Ad,nd,cd⟩:SlR)]) w6->Keeps (foot (J A1 L1.length cp1)) (W12.alloc (O #[J Ad nd cd] 34)) w6->(foot v1=foot (J A1 L1.length cp1)∨foot v1=[(W12.alloc (O #[J Ad nd cd] 34)).heap.size])->∃ A4 k4,v1=J A4 (L1 ++ [(⟨Ad,nd,cd⟩:SlR)]).length k4/\PolI k #[V I x0,V I x1,V I x2,V I x3,V I x4,V I x5] E (L1 ++ [(⟨Ad,nd,cd⟩:SlR)]) A4 k4 p w w6 from fun v1 w6 hO hK hf=>by
        obtain⟨A4,k4,hv,-⟩:=hO.row
        refine⟨A4,k4,hv,P12.out.more (KS.keeps hK) (hv ▸ hO) (fun x hx=>?_) HN.out HN9.out (D11.out.ks (pB (fun _=>False) BW.out) (fun _ _=>id)) ST.out⟩
        rw[<- hv] at hx
        rcases hf with e | e
        ·rw[e] at hx;exact P12.out.far x hx
        ·rw[e] at hx
         simp only[tA] at hx
         have:=P12.out.low.size
         omega)
       clear P11 D11 BW P12 BB XX
       go_wp2_with (first | (at_builtin;refine list_appE (E:=logE) (xs:=L1) (ys:=[(⟨Ad,nd,cd⟩:SlR)]) xB _ _ rfl rfl rfl rfl (by exact OA.out) (by exact RA.out) (by show _ * 24≤_;simp;have h6:=HB.out;omega) ?_;intro v1 w6 hO hK hf;obtain⟨A4,k4,rfl,hFI⟩:=FIR.out v1 w6 hO hK hf;have FI:=AS hFI;clear hO hK hf hFI) | fail)
       go_roundw
       case rel=>exact⟨j+1,L1 ++ [(⟨Ad,nd,cd⟩:SlR)],A4,k4,by go_num,vB,by rw[xA];rfl,⟨by rw[xA,HLL.out];simp;omega,_,FI.out⟩⟩
       case measure=>simp[intOf];omega
    ·have hin:j=2:=vB
     subst hin
     go_wp2
     go_roundw
     case rel=>exact⟨p+1,L1,A1,cp1,by go_num,vB,rfl,⟨by rw[HLL.out];omega,pv1,P5.out⟩⟩
     case measure=>simp[intOf];omega
  ·have hin:p=3:=vB
   subst hin
   obtain⟨r1,pv,r2⟩:=R.out
   have HLL:=AS r1
   have P4:=AS r2
   clear r1 r2 R
   obtain⟨len,hlen⟩:∃ len,L.length=len:=⟨_,rfl⟩
   have H6:=AS (show len=6 from by rw[<- hlen,HLL.out])
   have OL:=AS P4.out.own
   have LG:=AS (show ∀ i,i < 6->∃ (gl:Nat) (r r0:SlR) (ds ds0:List S.Done) (n:Nat),A9=M ⟨gl,0,U⟩/\(∀ w',Below wr.heap.size wr w'->w'.cell? ⟨gl,i,U⟩=M (J r.A n r.c)/\w'.cell? ⟨gl,0,U⟩=M (J r0.A n r0.c)/\OwnE doneE (J r.A n r.c) ds w'/\OwnE doneE (J r0.A n r0.c) ds0 w')/\ds.length=n/\ds0.length=n/\n≤900000/\ds.map strip=ds0.map strip from fun i hi=>by
    have h6:L.length=6:=by rw[HLL.out]
    obtain⟨ds,a1,a2,a3,a4⟩:=P4.out.log (L.getD i logE.d) (getD_mem _ vB)
    obtain⟨ds0,b1,b2,b3,b4⟩:=P4.out.log (L.getD 0 logE.d) (getD_mem _ vB)
    have e1:(L.getD i logE.d).n=E.length:=by rw[<- a1,<- a4,List.length_map]
    have e2:(L.getD 0 logE.d).n=E.length:=by rw[<- b1,<- b4,List.length_map]
    obtain⟨g1,k1,v1,-,-,-,c1⟩:=own_some P4.out.own (i:=i) vB
    injection v1 with v1 v2 v3
    refine⟨g1,L.getD i logE.d,L.getD 0 logE.d,ds,ds0,E.length,v1,fun w' hb=>?_,vB,vB,vB,by rw[a4,b4]⟩
    have hO:=P4.out.own.ks (pB (fun _=>False) hb) (fun _ _=>id)
    obtain⟨g2,k2,u1,-,-,-,d1⟩:=own_some hO (i:=i) vB
    obtain⟨g3,k3,t1,-,-,-,d2⟩:=own_some hO (i:=0) vB
    injection u1 with u1 u2 u3
    injection t1 with t1 t2 t3
    rw[v1] at u1 t1
    injection u1 with u1
    injection u1 with u1
    injection t1 with t1
    injection t1 with t1
    subst u1 t1
    rw[e1] at a3
    rw[e2] at b3
    have y1:=d1 0 yB
    have y2:=d2 0 yB
    have z1:i * logE.k+0=i:=by show i * 1+0=i;omega
    have z2:0 * logE.k+0=0:=rfl
    rw[z1] at y1
    rw[z2] at y2
    refine⟨y1.trans ?_,y2.trans ?_,a3.ks (pB (fun _=>False) hb) (fun _ _=>id),b3.ks (pB (fun _=>False) hb) (fun _ _=>id)⟩
    ·show M (Value.slice (L.getD i logE.d).A (L.getD i logE.d).n (L.getD i logE.d).c)=_
     rw[e1]
    ·show M (Value.slice (L.getD 0 logE.d).A (L.getD 0 logE.d).n (L.getD 0 logE.d).c)=_
     rw[e2])
   have LW:=AS P4.out.low
   rw[hlen]
   clear hlen
   have h6:len=6:=H6.out
   subst h6
   have R0:=AS (fA wr.heap.size wr)
   clear P4 OL HLL
   go_wp2_with fail
   go_loopw [19,89] (fun v19 v89 wq=>∃ i:Nat,v89=V I i/\i≤6/\Aside0 (Below wr.heap.size wr wq)) (fun _ v89 _=>7 - (intOf v89).toNat)
   case atStart=>exact⟨0,rfl,vB,R0⟩
   case round =>
    clear R0
    obtain⟨i,rfl,hi,R⟩:=hrel
    by_cases hii:i < 6
    ·have q0:(0:Int)≤(i:Int):=vB
     have q1:(i:Int) < 6:=vB
     obtain⟨gl,r,r0,ds,ds0,n,rfl,hw',b1,b2,b3,b4⟩:=LG.out i hii
     obtain⟨c1,c2,c3,c4⟩:=hw' _ R.out
     have SA:=AS (same_any b1 b2 b3 c3 c4 b4)
     clear hw' b1 b2 b3 b4 c3 c4
     go_wp2_with fail
     refine SA.out.mono ?_
     rintro e w9 ⟨rfl,hb⟩
     have B9:=AS (R.out.trans (hb.mono R.out.size))
     clear hb SA c1 c2 R
     go_wp2
     go_roundw
     case rel=>exact⟨i+1,by go_num,vB,B9⟩
     case measure=>simp[intOf];omega
    ·have hin:i=6:=vB
     subst hin
     have B9:=AS (LW.out.trans (R.out.mono LW.out.size))
     clear R
     go_wp2
     go_ret
     exact⟨rfl,B9.out⟩
end Go.Proofs.YtiebppkhaiofeaaGreat.K
