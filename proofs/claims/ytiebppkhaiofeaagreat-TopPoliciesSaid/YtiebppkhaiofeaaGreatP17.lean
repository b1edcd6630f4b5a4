/- Part of the proof of TopPolicies: what functions of the program do. -/
import Derived.Test.YtiebppkhaiofeaaGreatP16
import Derived.Test.YtiebppkhaiofeaaGreatP00
set_option maxHeartbeats 4000000
set_option maxRecDepth 100000
set_option linter.unusedVariables false
set_option linter.unusedSimpArgs false
open Option renaming some→M, none→U
open List renaming getD_eq_getElem?_getD→cB, getElem?_eq_getElem→dB, mem_cons_of_mem→kB, mem_cons_self→wA
open Nat renaming le_trans→lB
open Go.Proofs.YtiebppkhaiofeaaGreat.S renaming nodeAt→uB
open Bool renaming false_eq_true→vA
namespace Go.Proofs.YtiebppkhaiofeaaGreat.S
open Go.RowKit (wrap64)
section
variable {c:Cfg} {i:Nat} {op:Op} {v vv:Int->Int} {cnt:Nat->Int} {w w':World} {l:Let} {rest ls:List Let} {j:Nat} {n':Node} {d:Drw} {ds:List Done}
theorem tok_quiet (h:Tok c vv w) (hl:w.nodes.length=c.nodes.toNat) (hw:w.way=l :: rest) (lk:∀ x,0≤x->x < c.blocks->lsum cn x [l]=0/\lsum ow x [l]=0) (hj:j < c.nodes.toNat) (hn':n'.lines.tok=(uB w j).lines.tok) (e1:w'.nodes=w.nodes.set j n') (e2:w'.home=w.home) (hpre:∀ x∈ls,x.kind≠1) (e3:w'.way=rest ++ ls):Tok c vv w':=by
 refine h.node_move (ins:=[l]) hw vB e1 e2 e3 (fun x=>by rw[hn'];exact h.node _ (nodeAt_mem hl hj) x) (fun y hy hk=>absurd hk (hpre y hy)) (fun x h0 h1=>?_) (fun x h0 h1=>?_) (fun x hx=>absurd rfl hx)
 ·rw[lsum_no _ _ _ hpre,(lk x h0 h1).1,hn'];rfl
 ·rw[lsum_no _ _ _ hpre,(lk x h0 h1).2,hn'];rfl
theorem over_set (t:Table) (b s k:Int):(t.deactivate b s).over k=if k=b then max (t.over b) s else t.over k:=rfl
theorem dlv_deact (hc:Small c) (hW:WOk c w) (hI:Inv c i op v cnt w) (hD:Dlv c w l rest d w' ds) {q:Int} (hl:l=⟨6,c.nodes,j,op.block,q,0,false,S.b0⟩) (hj:(j:Int) < c.nodes) (hq1:1≤q):Res c i op v cnt w w' ds:=by
 obtain⟨-,-,-,-,-,-,-,-,-,-,-,-,hn1,hn2,hb1,hb2,ht1,ht2⟩:=check_ok hc.ok
 have hw:=hD.way
 have hiN:=hI.base.iN
 have hk:l.kind=6:=by rw[hl]
 have hlw:l∈w.way:=by rw[hw];exact wA
 have hb0:=hI.base.b0
 have hb1:=hI.base.b1
 have hsh:=hI.base.shp l hlw
 have hck:=shp_check hc hiN hb0 hb1 hsh.1 vB
 have hqs:q≤(R w op.block).seq:=by have:=hsh.2;rw[hl] at this;exact this
 have hwl:wt c l=2:=by unfold wt;rw[hk];rfl
 have hjN:j < c.nodes.toNat:=vB
 obtain⟨e1,e2,e3,e4⟩:=hD.node j (by rw[hl]) hjN
 have hid:(uB w j).id=(j:Nat):=hW.t.ids _ hjN
 have htk:=deact_eq (n:=uB w j) (l:=l) d hck (by rw[hid,hl]) hk
 rw[htk] at e1 e3 e4
 have hls:(out0.send ((uB w j).home c 7 l.block l.seq)).letters=[⟨7,j,c.nodes,op.block,q,0,false,S.b0⟩]:=by
  show[] ++ [(⟨7,(uB w j).id,c.nodes,l.block,l.seq,0,false,S.b0⟩:Let)]=_
  rw[hid,hl];rfl
 dsimp only at e1 e3 e4
 rw[hls] at e3
 have e4:ds=[]:=e4
 subst e4
 have hlb:l.block=op.block:=by rw[hl]
 have hlq:l.seq=q:=by rw[hl]
 rw[hlb,hlq] at e1
 have hn:=nodeAt_set hW.t.len e1 hjN
 have hcpu:(uB w' i).cpu=(uB w i).cpu:=by rw[hn];split;(rename_i e;rw[e]);rfl
 have hask:(uB w' i).asked=(uB w i).asked:=by rw[hn];split;(rename_i e;rw[e]);rfl
 have hmem:∀ y∈w'.way,y∈w.way∨y=⟨7,j,c.nodes,op.block,q,0,false,S.b0⟩:=fun y hy=>by
  rw[e3] at hy
  rcases List.mem_append.1 hy with z | z
  ·exact .inl (rest_way hw z)
  ·exact .inr (List.mem_singleton.1 z)
 refine Res.other (n':={ uB w j with know:=(uB w j).know.deactivate op.block q }) hW hI hw hjN (fun _=>rfl) e1 e2 e3 rfl (fun x h0 h1=>?_) (fun x h0 h1=>hI.base.told j hjN x h0 h1) (fun x hx=>hI.base.askd j hjN x hx) (fun y hy=>?_) ?_ ?_ ?_
 ·show((uB w j).know.deactivate op.block q).over x≤_
  rw[over_set];split
  ·rename_i e;rw[e];have:=hI.base.over j hjN op.block hb0 hb1;omega
  ·exact hI.base.over j hjN x h0 h1
 ·rw[List.mem_singleton.1 hy];exact⟨.ack j q hj hq1,hqs⟩
 ·rcases hI.ph with h | h | h | h
  ·refine .inl (h.keep (R_same e2 _) (fun y hy=>(hmem y hy).imp id (fun e=>by rw[e];show(7:Int)≠3;decide)) (by rw[hask];exact h.askd) (by rw[hcpu];exact h.tim))
  ·have:=(h.first hw).1;rw[this] at hk;have hk3:(3:Int)=6:=hk;omega
  ·exact absurd hk (h.kin l hlw).2.2.1
  ·refine .inr (.inr (.inr ⟨by rw[R_same e2];exact h.on,by rw[R_same e2];exact h.en,by rw[R_same e2];exact h.act,fun y hy=>(hmem y hy).elim (h.kin y) (fun e=>by rw[e];exact⟨by show(7:Int)≠2;decide,by show(7:Int)≠3;decide⟩),by rw[hcpu];exact h.busy,by rw[hask];exact h.askd,by rw[R_same e2];exact h.len,by rw[R_same e2];exact h.hi,by rw[R_same e2];exact h.ne,fun k hk2=>?_⟩))
   rw[R_same e2,e3]
   rcases h.all k hk2 with q1 | q1 | q1
   ·exact .inl q1
   ·rw[hw] at q1
    rcases List.mem_cons.1 q1 with q2 | q2
    ·right;right
     rw[hl] at q2
     injection q2 with _ _ q3 _ q4
     have:k=j:=vB
     subst this
     rw[q4]
     exact List.mem_append.2 (.inr (List.mem_singleton.2 rfl))
    ·exact .inr (.inl (List.mem_append.2 (.inl q2)))
   ·have:=mem_rest hw q1 (fun e=>by rw[hl] at e;injection e with e;exact absurd e yB)
    exact .inr (.inr (List.mem_append.2 (.inl this)))
 ·exact tok_quiet (n':={ uB w j with know:=(uB w j).know.deactivate op.block q }) hI.tok hW.t.len hw (fun y _ _=>⟨lsum_one0 _ _ vB,lsum_one0 _ _ vB⟩) hjN rfl e1 e2 (fun y hy=>by rw[List.mem_singleton.1 hy];show(7:Int)≠1;decide) e3
 ·rw[hwl];show 1 < 2;omega
theorem dlv_ack (hc:Small c) (hW:WOk c w) (hI:Inv c i op v cnt w) (hD:Dlv c w l rest d w' ds) {q:Int} (hl:l=⟨7,j,c.nodes,op.block,q,0,false,S.b0⟩) (hj:(j:Int) < c.nodes) (hq1:1≤q):Res c i op v cnt w w' ds:=by
 obtain⟨-,-,-,-,-,-,-,-,-,-,-,-,hn1,hn2,hb1,hb2,ht1,ht2⟩:=check_ok hc.ok
 have hw:=hD.way
 have hiN:=hI.base.iN
 have hk:l.kind=7:=by rw[hl]
 have hlw:l∈w.way:=by rw[hw];exact wA
 have hb0:=hI.base.b0
 have hb1:=hI.base.b1
 have hsh:=hI.base.shp l hlw
 have hck:=shp_check hc hiN hb0 hb1 hsh.1 vB
 have hrl:op.block < w.home.queue.rows.length:=by rw[hW.t.rl];omega
 have hjN:j < c.nodes.toNat:=vB
 obtain⟨e1,e2,e3,e4⟩:=hD.home (by rw[hl])
 subst e4
 have hi:uB w' i=uB w i:=nodeAt_same e1 i
 have his:=arb_is (a:=w.home.queue) (n:=j) hb0 hrl vB (by rw[hW.t.qn];exact hj)
 have htk:w.home.take c l d=w.home.begin_ c (w.home.queue.ack op.block q j):=by
  unfold Home.take
  rw[if_neg (by rw[hck,hl];simp),if_neg vB,if_neg vB,if_neg vB,if_neg vB,if_pos hk,hl]
 rw[htk] at e2 e3
 have go:∀ a',w.home.queue.ack op.block q j=(a',U)->(∀ y,0≤y->y≠op.block->a'.row y=w.home.queue.row y)->(a'.row op.block).queue=[]->(a'.row op.block).seq=(R w op.block).seq ->
   (w'.home={ w.home with queue:=a' }->w'.way=rest ++ []->Ph c i op w')->Res c i op v cnt w w' []:=fun a' h1 h2 h3 h4 h5=>by
  rw[h1] at e2 e3
  have e2:w'.home={ w.home with queue:=a' }:=e2
  have e3:w'.way=rest ++ []:=e3
  refine Res.homeR hI hw e1 e3 (by rw[e2]) (fun y h0 _ hy=>by unfold R;rw[e2];exact h2 y h0 hy) (by unfold R;rw[e2];exact h3) (by show _≤(w'.home.queue.row op.block).seq;rw[e2,h4];exact Int.le_refl _) (fun y hy=>by cases hy) (h5 e2 e3) ?_ (wt_pos c l)
  exact Tok.homeQ (tok_drop hI.tok hw (fun y _ _=>⟨lsum_one0 _ _ vB,lsum_one0 _ _ vB⟩) (w':={ w' with home:=w.home }) e1 rfl (pre:=[]) (fun y hy=>by cases hy) e3) e2
 rcases hI.ph with h | h | h | h
 ·have hno:w.home.queue.ack op.block q j=(w.home.queue,U):=by
   unfold Arb.ack
   rw[his]
   simp only[Bool.not_true,vA,if_false]
   rw[if_pos (by rw[show(w.home.queue.row op.block).ending=false from h.en];rfl)]
  refine go _ hno (fun _ _ _=>rfl) hI.base.que rfl (fun e2 e3=>.inl (h.keep (by unfold R;rw[e2]) (fun y hy=>.inl ?_) (by rw[hi];exact h.askd) (by rw[hi];exact h.tim)))
  rw[e3] at hy
  exact rest_way hw (by simpa using hy)
 ·have:=(h.first hw).1;rw[this] at hk;have hk3:(3:Int)=7:=hk;omega
 ·exact absurd hk (h.kin l hlw).2.2.2
 ·have hbi:=hW.t.all.row hb0 (by rw[hW.t.rl];omega)
  have has:(R w op.block).active.seq=(R w op.block).seq:=by
   have h1:1≤(R w op.block).seq:=Classical.not_not.1 fun z=>by
    have h0:=hbi.lo
    have h0':0≤(R w op.block).seq:=h0
    have:=(hbi.zero (show(R w op.block).seq=0 by omega)).2
    have h2:=h.en
    unfold R at h2
    rw[this] at h2;cases h2
   exact(hbi.act h1).1
  by_cases hqs:q=(R w op.block).seq
  ·have hen:(w.home.queue.row op.block).ending=true:=h.en
   have hsq:(w.home.queue.row op.block).active.seq=q:=by show(R w op.block).active.seq=q;rw[has,hqs]
   have hkl:((w.home.queue.row op.block).knows.set j true).length=64:=by rw[List.length_set];exact h.len
   have hget:∀ k,((w.home.queue.row op.block).knows.set j true).getD k false=if k=j then true else (R w op.block).knows.getD k false:=fun k=>by
    rw[getD_set]
    have hl64:(w.home.queue.row op.block).knows.length=64:=h.len
    by_cases e:k=j
    ·rw[if_pos e,if_pos ⟨e.symm,vB⟩]
    ·rw[if_neg e,if_neg (fun z=>e z.1.symm)];rfl
   by_cases hall:(w.home.queue.row op.block).knows.set j true=(List.range 64).map (fun(k:Nat)=>decide ((k:Int) < c.nodes))
   ·
    have hak:w.home.queue.ack op.block q j=(w.home.queue.setRow op.block { w.home.queue.row op.block with knows:=(w.home.queue.row op.block).knows.set j true,ending:=false },U):=by
     unfold Arb.ack
     rw[his]
     simp only[Bool.not_true,vA,if_false]
     rw[if_neg (by rw[hen,hsq];simp),if_neg (by rw[hW.t.qn];simp only[Int.toNat_natCast];exact fun z=>z hall)]
     unfold Arb.next
     simp only[Int.toNat_natCast]
     rw[setRow_row _ _ hb0 hrl hb0,if_pos rfl]
     simp only
     rw[if_neg (by rw[show(w.home.queue.row op.block).on=false from h.on];simp),show(w.home.queue.row op.block).queue=[] from hI.base.que]
    have hr:=fun y (hy:0≤y)=>setRow_row w.home.queue { w.home.queue.row op.block with knows:=(w.home.queue.row op.block).knows.set j true,ending:=false } hb0 hrl hy
    have hrb:=hr op.block hb0
    rw[if_pos rfl] at hrb
    refine go _ hak (fun y h0 hy=>by rw[hr y h0,if_neg hy]) (by rw[hrb];exact hI.base.que) (by rw[hrb];rfl) (fun e2 e3=>?_)
    have hRb:R w' op.block={ w.home.queue.row op.block with knows:=(w.home.queue.row op.block).knows.set j true,ending:=false }:=by unfold R;rw[e2];exact hrb
    refine .inl ⟨by rw[hRb];exact h.on,by rw[hRb],fun y hy=>?_,by rw[hi];exact h.askd,fun hb=>?_⟩
    ·rw[e3] at hy
     exact(h.kin y (rest_way hw (by simpa using hy))).2
    ·rw[hi,h.busy] at hb;cases hb
   ·have hak:w.home.queue.ack op.block q j=(w.home.queue.setRow op.block { w.home.queue.row op.block with knows:=(w.home.queue.row op.block).knows.set j true },U):=by
     unfold Arb.ack
     rw[his]
     simp only[Bool.not_true,vA,if_false]
     rw[if_neg (by rw[hen,hsq];simp),if_pos (by rw[hW.t.qn];simp only[Int.toNat_natCast];exact hall)]
     simp only[Int.toNat_natCast]
    have hr:=fun y (hy:0≤y)=>setRow_row w.home.queue { w.home.queue.row op.block with knows:=(w.home.queue.row op.block).knows.set j true } hb0 hrl hy
    have hrb:=hr op.block hb0
    rw[if_pos rfl] at hrb
    refine go _ hak (fun y h0 hy=>by rw[hr y h0,if_neg hy]) (by rw[hrb];exact hI.base.que) (by rw[hrb];rfl) (fun e2 e3=>?_)
    have hRb:R w' op.block={ w.home.queue.row op.block with knows:=(w.home.queue.row op.block).knows.set j true }:=by unfold R;rw[e2];exact hrb
    refine .inr (.inr (.inr ⟨by rw[hRb];exact h.on,by rw[hRb];exact h.en,by rw[hRb];exact h.act,fun y hy=>?_,by rw[hi];exact h.busy,by rw[hi];exact h.askd,by rw[hRb];exact hkl,fun k hk2=>?_,by rw[hRb];exact hall,fun k hk2=>?_⟩))
    ·rw[e3] at hy
     exact h.kin y (rest_way hw (by simpa using hy))
    ·rw[hRb]
     show((w.home.queue.row op.block).knows.set j true).getD k false=false
     rw[hget,if_neg vB]
     exact h.hi k hk2
    ·have hs:(R w' op.block).seq=(R w op.block).seq:=by rw[hRb];rfl
     have hkn:(R w' op.block).knows.getD k false=if k=j then true else (R w op.block).knows.getD k false:=by rw[hRb];exact hget k
     rw[hs,hkn]
     by_cases e:k=j
     ·rw[if_pos e];exact .inl rfl
     ·rw[if_neg e,e3]
      refine(h.all k hk2).imp id (Or.imp (fun z=>?_) (fun z=>?_))
      ·have:=mem_rest hw z (fun e=>by rw[hl] at e;injection e with e;exact absurd e yB)
       simpa using this
      ·have:=mem_rest hw z (fun e2=>by rw[hl] at e2;injection e2 with _ e2;exact e vB)
       simpa using this
  ·have hno:w.home.queue.ack op.block q j=(w.home.queue,U):=by
    unfold Arb.ack
    rw[his]
    simp only[Bool.not_true,vA,if_false]
    have h5:(w.home.queue.row op.block).active.seq=(R w op.block).seq:=has
    rw[if_pos (by rw[h5];simp;exact .inr (fun e=>hqs e.symm))]
   refine go _ hno (fun _ _ _=>rfl) hI.base.que rfl (fun e2 e3=>.inr (.inr (.inr ?_)))
   have hR:R w' op.block=R w op.block:=by unfold R;rw[e2]
   refine⟨by rw[hR];exact h.on,by rw[hR];exact h.en,by rw[hR];exact h.act,fun y hy=>?_,by rw[hi];exact h.busy,by rw[hi];exact h.askd,by rw[hR];exact h.len,by rw[hR];exact h.hi,by rw[hR];exact h.ne,fun k hk2=>?_⟩
   ·rw[e3] at hy
    exact h.kin y (rest_way hw (by simpa using hy))
   ·rw[hR,e3]
    refine(h.all k hk2).imp id (Or.imp (fun z=>?_) (fun z=>?_))
    ·have:=mem_rest hw z (fun e=>by rw[hl] at e;injection e with e;exact absurd e yB)
     simpa using this
    ·have:=mem_rest hw z (fun e=>by rw[hl] at e;injection e with _ _ _ _ e;exact hqs e.symm)
     simpa using this
end
section
variable {c:Cfg} {i:Nat} {op:Op} {v vv:Int->Int} {cnt:Nat->Int} {w w':World} {l:Let} {rest ls:List Let} {j:Nat} {n':Node} {d:Drw} {ds:List Done}
theorem end_mine {n:Node} {b:Int} {a:Act} (o:Out) (ha:n.know.act b=M a) (hn:a.node=n.id) :
  (a.seq≤n.told b/\n.end_ c b o=(n,o))∨(n.told b < a.seq/\n.end_ c b o=({ n with told:=upd n.told b a.seq,asked:=upd n.asked b false },o.send (n.home c 5 b a.seq))):=by
 have ho:n.own b=M a:=by unfold Node.own;rw[ha];simp only;rw[if_pos hn]
 by_cases h:a.seq≤n.told b
 ·refine .inl ⟨h,?_⟩
  unfold Node.end_
  rw[ho];simp only;rw[if_pos h]
 ·exact .inr ⟨vB,end_some o ho vB⟩
theorem dlv_act (hc:Small c) (hW:WOk c w) (hI:Inv c i op v cnt w) (hD:Dlv c w l rest d w' ds) {q:Int} (hl:l=⟨4,c.nodes,j,op.block,q,i,false,S.b0⟩) (hj:(j:Int) < c.nodes) (hq1:1≤q):Res c i op v cnt w w' ds:=by
 obtain⟨-,-,-,-,-,-,-,-,-,-,-,-,hn1,hn2,hb1,hb2,ht1,ht2⟩:=check_ok hc.ok
 have hw:=hD.way
 have hiN:=hI.base.iN
 have hk:l.kind=4:=by rw[hl]
 have hlw:l∈w.way:=by rw[hw];exact wA
 have hb0:=hI.base.b0
 have hb1:=hI.base.b1
 have hsh:=hI.base.shp l hlw
 have hck:=shp_check hc hiN hb0 hb1 hsh.1 vB
 have hqs:q≤(R w op.block).seq:=by have:=hsh.2;rw[hl] at this;exact this
 have hwl:wt c l=13:=by unfold wt;rw[hk];rfl
 have hjN:j < c.nodes.toNat:=vB
 obtain⟨e1,e2,e3,e4⟩:=hD.node j (by rw[hl]) hjN
 have hid:(uB w j).id=(j:Nat):=hW.t.ids _ hjN
 have hlb:l.block=op.block:=by rw[hl]
 have hlq:l.seq=q:=by rw[hl]
 have hlwho:l.who=i:=by rw[hl]
 rw[activate_eq (n:=uB w j) (l:=l) d hck (by rw[hid,hl]) hk] at e1 e3 e4
 have hbi:=hW.t.all.row hb0 (by rw[hW.t.rl];omega)
 have hprev:(R w op.block).seq - 1≤(uB w j).know.over op.block:=hbi.prev j hjN
 have hn:=fun(n':Node) (e1:w'.nodes=w.nodes.set j n')=>nodeAt_set hW.t.len e1 hjN
 have noB:¬ PhB c i op w:=fun h=>by
  have:=(h.first hw).1;rw[this] at hk;have hk3:(3:Int)=4:=hk;omega
 have lk:∀ x,0≤x->x < c.blocks->lsum cn x [l]=0/\lsum ow x [l]=0:=fun y _ _=>⟨lsum_one0 _ _ vB,lsum_one0 _ _ vB⟩
 have hne:∀ k,k≠j->∀ s:Int,(⟨4,c.nodes,k,op.block,s,i,false,S.b0⟩:Let)∈w.way->(⟨4,c.nodes,k,op.block,s,i,false,S.b0⟩:Let)∈rest:=fun k hkj s hm=>mem_rest hw hm (fun e=>by rw[hl] at e;injection e with _ _ e;exact hkj vB)
 have hne5:∀ s:Int,(⟨5,i,c.nodes,op.block,s,0,false,S.b0⟩:Let)∈w.way->(⟨5,i,c.nodes,op.block,s,0,false,S.b0⟩:Let)∈rest:=fun s hm=>mem_rest hw hm (fun e=>by rw[hl] at e;injection e with e;exact absurd e yB)
 have hD67:∀ y∈w.way,y.kind=6∨y.kind=7->y∈rest:=fun y hy h=>mem_rest hw hy (fun e=>by rw[e] at h;omega)
 by_cases href:l.seq < 1∨l.seq≤(uB w j).know.over l.block∨l.seq≤(uB w j).know.seqOf l.block
 ·
  rw[activate_no href] at e1 e3 e4
  have e4:ds=[]:=e4
  subst e4
  have e3:w'.way=rest ++ []:=e3
  have hnod:∀ k,uB w' k=uB w k:=fun k=>by
   rw[hn _ e1];split
   ·rename_i e;rw[e]
   ·rfl
  have hin:∀ y∈w'.way,y∈w.way:=fun y hy=>rest_way hw (by rw[e3] at hy;simpa using hy)
  refine Res.other (n':=uB w j) hW hI hw hjN (fun _=>rfl) e1 e2 e3 rfl (fun x h0 h1=>hI.base.over j hjN x h0 h1) (fun x h0 h1=>hI.base.told j hjN x h0 h1) (fun x hx=>hI.base.askd j hjN x hx) (fun y hy=>by cases hy) ?_ (tok_quiet hI.tok hW.t.len hw lk hjN rfl e1 e2 (fun y hy=>by cases hy) e3) (wt_pos c l)
  rcases hI.ph with h | h | h | h
  ·exact .inl (h.keep (R_same e2 _) (fun y hy=>.inl (hin y hy)) (by rw[hnod];exact h.askd) (by rw[hnod];exact h.tim))
  ·exact absurd h noB
  ·have hR:=R_same e2 op.block
   have hkj:(uB w j).know.act op.block=M (R w op.block).active∨(⟨4,c.nodes,j,op.block,(R w op.block).seq,i,false,S.b0⟩:Let)∈rest:=by
    rcases h.know j hjN with h1 | h1
    ·exact .inl h1
    ·by_cases e:q=(R w op.block).seq
     ·left
      have hov:=h.ovr j hjN
      cases ha:(uB w j).know.act op.block with
      | none =>
       exfalso
       have hso:(uB w j).know.seqOf op.block=0:=by unfold Table.seqOf;rw[ha]
       rw[hlb,hlq,hso] at href
       omega
      | some a=>rw[(know_act hW.t hb0 hb1 hjN ha).1]
     ·exact .inr (mem_rest hw h1 (fun e5=>by rw[hl] at e5;injection e5 with _ _ _ _ e5;exact e e5.symm))
   refine .inr (.inr (.inl ⟨by rw[hR];exact h.on,by rw[hR];exact h.en,by rw[hR];exact h.act,fun y hy=>h.kin y (hin y hy),fun k hk2=>by rw[hR,hnod];exact h.ovr k hk2,by rw[e2];exact h.home,fun k hk2=>?_,fun k hk2 hki=>by rw[hnod];exact h.tok k hk2 hki,?_⟩))
   ·rw[hR,hnod,e3]
    by_cases e:k=j
    ·rw[e];exact hkj.imp id (fun z=>by simpa using z)
    ·exact(h.know k hk2).imp id (fun z=>by simpa using hne k e _ z)
   ·rw[hR,hnod,e3]
    rcases h.st with ⟨h1,h2,h3⟩ | ⟨h1,h2,h3⟩
    ·by_cases e:i=j
     ·refine .inl ⟨fun y hy=>h1 y (rest_way hw (by simpa using hy)),h2,h3.imp id (fun z=>?_)⟩
      by_cases eq:q=(R w op.block).seq
      ·exfalso
       have hov:=h.ovr j hjN
       have hso:(uB w j).know.seqOf op.block=0:=by unfold Table.seqOf;rw[<- e,z.2]
       rw[hlb,hlq,hso] at href
       omega
      ·have:=mem_rest hw z.1 (fun e5=>by rw[hl] at e5;injection e5 with _ _ _ _ e5;exact eq e5.symm)
       exact⟨by simpa using this,z.2⟩
     ·exact .inl ⟨fun y hy=>h1 y (rest_way hw (by simpa using hy)),h2,h3.imp id (fun z=>⟨by simpa using hne i e _ z.1,z.2⟩)⟩
    ·exact .inr ⟨h1,h2,by simpa using hne5 _ h3⟩
  ·exact .inr (.inr (.inr (h.keep (R_same e2 _) (fun y hy=>.inl (hin y hy)) (fun y hy hk2=>by rw[e3];simpa using hD67 y hy hk2) (by rw[hnod];exact h.busy) (by rw[hnod];exact h.askd))))
 ·
  have hover:(uB w j).know.over op.block < q:=by rw[hlb,hlq] at href;omega
  have hqe:q=(R w op.block).seq:=vB
  have noA:¬ PhA c i op w:=fun h=>by
   have:(R w op.block).seq≤(uB w j).know.over op.block:=hbi.rest h.on h.en j hjN
   omega
  by_cases hji:j=i
  ·
   subst hji
   rw[activate_own href (by rw[hlwho,hid])] at e1 e3 e4
   rw[hlb,hlq,hlwho] at e1 e3 e4
   by_cases hbz:(uB w j).cpu.busy=true
   ·have hC:PhC c j op w:=by
     rcases hI.ph with h | h | h | h
     ·exact absurd h noA
     ·exact absurd h noB
     ·exact h
     ·rw[h.busy] at hbz;cases hbz
    have hp:(uB w j).cpu.pinned=op.block:=by unfold Proc.pinned;rw[if_pos hbz,(hI.base.busy hbz).1]
    rw[hp] at e1 e3 e4
    simp only[ne_eq,not_true,if_false] at e1 e3 e4
    have e4:ds=[]:=e4
    subst e4
    have e3:w'.way=rest ++ []:=e3
    have hin:∀ y∈w'.way,y∈w.way:=fun y hy=>rest_way hw (by rw[e3] at hy;simpa using hy)
    have hnod:=hn _ e1
    have hnj:=hnod j
    rw[if_pos rfl] at hnj
    have hR:=R_same e2 op.block
    refine Res.other (n':={ uB w j with know:={ (uB w j).know with act:=upd (uB w j).know.act op.block (M ⟨op.block,j,q⟩)}}) hW hI hw hjN (fun _=>rfl) e1 e2 e3 rfl (fun x h0 h1=>hI.base.over j hjN x h0 h1) (fun x h0 h1=>hI.base.told j hjN x h0 h1) (fun x hx=>hI.base.askd j hjN x hx) (fun y hy=>by cases hy) ?_ (tok_quiet (n':={ uB w j with know:={ (uB w j).know with act:=upd (uB w j).know.act op.block (M ⟨op.block,j,q⟩)}}) hI.tok hW.t.len hw lk hjN rfl e1 e2 (fun y hy=>by cases hy) e3) (wt_pos c l)
    refine .inr (.inr (.inl ⟨by rw[hR];exact hC.on,by rw[hR];exact hC.en,by rw[hR];exact hC.act,fun y hy=>hC.kin y (hin y hy),fun k hk2=>?_,by rw[e2];exact hC.home,fun k hk2=>?_,fun k hk2 hki=>?_,?_⟩))
    ·rw[hR,hnod];split
     ·exact hC.ovr j hjN
     ·exact hC.ovr k hk2
    ·rw[hR,hnod,e3]
     by_cases e:k=j
     ·rw[if_pos e];left
      rw[hC.act,<- hqe];simp[upd]
     ·rw[if_neg e]
      exact(hC.know k hk2).imp id (fun z=>by simpa using hne k e _ z)
    ·rw[hnod,if_neg hki];exact hC.tok k hk2 hki
    ·rw[hR,hnj]
     rcases hC.st with ⟨h1,h2,h3⟩ | ⟨h1,h2,h3⟩
     ·exact .inl ⟨fun y hy=>h1 y (hin y hy),h2,.inl hbz⟩
     ·rw[h1] at hbz;cases hbz
   ·have hbf:(uB w j).cpu.busy=false:=by simpa using hbz
    have hp:(uB w j).cpu.pinned≠op.block:=by unfold Proc.pinned;rw[if_neg hbz];omega
    rw[if_pos hp] at e1 e3 e4
    have key:∀ (n':Node) (ls:List Let),w'.nodes=w.nodes.set j n'->w'.way=rest ++ ls->ds=[]->n'.lines=(uB w j).lines->n'.know={ (uB w j).know with act:=upd (uB w j).know.act op.block (M ⟨op.block,j,q⟩)}->n'.cpu=(uB w j).cpu ->
      (∀ x,0≤x->x < c.blocks->n'.told x≤(R w x).seq)->(∀ x,x≠op.block->n'.asked x=(uB w j).asked x)->(n'.asked op.block=(uB w j).asked op.block∨n'.asked op.block=false)->(ls=[]/\n'.asked=(uB w j).asked/\q≤(uB w j).told op.block∨ls=[⟨5,j,c.nodes,op.block,q,0,false,S.b0⟩]/\n'.asked op.block=false)->Res c j op v cnt w w' ds:=by
     intro n' ls e1 e3 e4 k1 k2 k3 k4 k5 k6 k7
     subst e4
     have hnod:=hn _ e1
     have hnj:=hnod j
     rw[if_pos rfl] at hnj
     have hR:=R_same e2 op.block
     have hls:∀ y∈ls,y=⟨5,j,c.nodes,op.block,q,0,false,S.b0⟩:=fun y hy=>by
      rcases k7 with ⟨z,-⟩ | ⟨z,-⟩
      ·rw[z] at hy;cases hy
      ·rw[z] at hy;exact List.mem_singleton.1 hy
     have hrest:∀ y,y∈rest->y∈w'.way:=fun y hy=>by rw[e3];exact List.mem_append.2 (.inl hy)
     have hmem:∀ y∈w'.way,y∈w.way∨y=⟨5,j,c.nodes,op.block,q,0,false,S.b0⟩:=fun y hy=>by
      rw[e3] at hy
      exact(List.mem_append.1 hy).imp (rest_way hw) (hls y)
     refine Res.other (n':=n') hW hI hw hjN (fun _=>by rw[k1]) e1 e2 e3 k3 (fun x h0 h1=>by rw[k2];exact hI.base.over j hjN x h0 h1) k4 (fun x hx=>by rw[k5 x (hx.resolve_left (fun z=>z rfl))];exact hI.base.askd j hjN x hx) (fun y hy=>by rw[hls y hy];exact⟨.done q hq1,hqs⟩) ?_ (tok_quiet hI.tok hW.t.len hw lk hjN (by rw[k1]) e1 e2 (fun y hy=>by rw[hls y hy];show(5:Int)≠1;decide) e3) ?_
     ·rcases hI.ph with h | h | h | h
      ·exact absurd h noA
      ·exact absurd h noB
      ·refine .inr (.inr (.inl ⟨by rw[hR];exact h.on,by rw[hR];exact h.en,by rw[hR];exact h.act,fun y hy=>(hmem y hy).elim (h.kin y) (fun z=>by rw[z];exact⟨by show(5:Int)≠2;decide,by show(5:Int)≠3;decide,by show(5:Int)≠6;decide,by show(5:Int)≠7;decide⟩),fun k hk2=>?_,by rw[e2];exact h.home,fun k hk2=>?_,fun k hk2 hki=>?_,.inr ⟨by rw[hnj,k3];exact hbf,?_⟩⟩))
       ·rw[hR,hnod];split
        ·rw[k2];exact h.ovr j hjN
        ·exact h.ovr k hk2
       ·rw[hR,hnod]
        by_cases e:k=j
        ·rw[if_pos e];left
         rw[k2,h.act,<- hqe];simp[upd]
        ·rw[if_neg e]
         exact(h.know k hk2).imp id (fun z=>hrest _ (hne k e _ z))
       ·rw[hnod,if_neg hki];exact h.tok k hk2 hki
       ·rw[hR,hnj]
        rcases k7 with ⟨z1,z2,z3⟩ | ⟨z1,z2⟩
        ·rcases h.st with ⟨h1,h2,h3⟩ | ⟨h1,h2,h3⟩
         ·omega
         ·exact⟨by rw[z2];exact h2,hrest _ (hne5 _ h3)⟩
        ·exact⟨z2,by rw[e3,z1,hqe];exact List.mem_append.2 (.inr (List.mem_singleton.2 rfl))⟩
      ·refine .inr (.inr (.inr (h.keep hR (fun y hy=>(hmem y hy).imp id (fun z=>by rw[z];exact⟨by show(5:Int)≠2;decide,by show(5:Int)≠3;decide⟩)) (fun y hy hk2=>hrest _ (hD67 y hy hk2)) (by rw[hnj,k3];exact hbf) ?_)))
       rw[hnj]
       exact k6.elim (fun z=>by rw[z];exact h.askd) id
     ·rw[hwl]
      rcases k7 with ⟨z,-⟩ | ⟨z,-⟩
      ·rw[z];show 0 < 13;omega
      ·rw[z];show 10 < 13;omega
    rcases end_mine (c:=c) (n:={ uB w j with know:={ (uB w j).know with act:=upd (uB w j).know.act op.block (M ⟨op.block,j,q⟩)}}) (b:=op.block) (a:=⟨op.block,j,q⟩) out0 (by simp[upd]) (by rw[hid]) with ⟨z1,z2⟩ | ⟨z1,z2⟩
    ·rw[z2] at e1 e3 e4
     exact key _ _ e1 e3 e4 rfl rfl rfl (fun x h0 h1=>hI.base.told j hjN x h0 h1) (fun x _=>rfl) (.inl rfl) (.inl ⟨rfl,rfl,z1⟩)
    ·rw[z2] at e1 e3 e4
     refine key _ _ e1 e3 e4 rfl rfl rfl (fun x h0 h1=>?_) (fun x hx=>?_) (.inr ?_) (.inr ⟨?_,?_⟩)
     ·show upd _ _ _ _≤_
      unfold upd;split
      ·rename_i e;rw[e];exact hqs
      ·exact hI.base.told j hjN x h0 h1
     ·simp[upd,hx]
     ·simp[upd]
     ·show[] ++ [(⟨5,(uB w j).id,c.nodes,op.block,q,0,false,S.b0⟩:Let)]=_
      rw[hid];rfl
     ·simp[upd]
  ·
   rw[activate_other href (by rw[hlwho,hid];omega)] at e1 e3 e4
   rw[hlb,hlq,hlwho] at e1
   rw[hlb,hlwho] at e3
   have e4:ds=[]:=e4
   subst e4
   dsimp only at e1 e3
   have hnn:=hW.node _ (nodeAt_mem hW.t.len hjN)
   have hgood:=hI.tok.node _ (nodeAt_mem hW.t.len hjN)
   obtain⟨g1,g2⟩:=take_good hnn.cac hgood ht2 op.block ((uB w j).lines.tok op.block).count true true
   rw[g2] at e3
   have hall:=split_all (hgood op.block) ht2
   have hnod:=hn _ e1
   have hi:uB w' i=uB w i:=by rw[hnod,if_neg (fun z=>hji z.symm)]
   have hR:=R_same e2 op.block
   have hrest:∀ y,y∈rest->y∈w'.way:=fun y hy=>by rw[e3];exact List.mem_append.2 (.inl hy)
   have hmem:∀ y∈w'.way,y∈w.way∨y.kind=1:=fun y hy=>by
    rw[e3] at hy
    exact(List.mem_append.1 hy).imp (rest_way hw) (fun z=>by rw[sendT_mem z];rfl)
   refine Res.other (n':={ uB w j with know:={ (uB w j).know with act:=upd (uB w j).know.act op.block (M ⟨op.block,i,q⟩)},lines:=((uB w j).lines.take c op.block ((uB w j).lines.tok op.block).count true true).1 }) hW hI hw hjN (fun e=>absurd e hji) e1 e2 e3 rfl (fun x h0 h1=>hI.base.over j hjN x h0 h1) (fun x h0 h1=>hI.base.told j hjN x h0 h1) (fun x hx=>hI.base.askd j hjN x hx) (fun y hy=>?_) ?_ ?_ ?_
   ·rw[sendT_mem hy,hid]
    have:=(seq_lo hW hb0 hb1).1
    exact⟨.tok _ _ vB vB vB,this⟩
   ·rcases hI.ph with h | h | h | h
    ·exact absurd h noA
    ·exact absurd h noB
    ·refine .inr (.inr (.inl ⟨by rw[hR];exact h.on,by rw[hR];exact h.en,by rw[hR];exact h.act,fun y hy=>(hmem y hy).elim (h.kin y) (fun z=>by rw[z];exact⟨yB,yB,yB,yB⟩),fun k hk2=>?_,by rw[e2];exact h.home,fun k hk2=>?_,fun k hk2 hki=>?_,?_⟩))
     ·rw[hR,hnod];split
      ·exact h.ovr j hjN
      ·exact h.ovr k hk2
     ·rw[hR,hnod]
      by_cases e:k=j
      ·rw[if_pos e];left
       rw[h.act,<- hqe];simp[upd]
      ·rw[if_neg e]
       exact(h.know k hk2).imp id (fun z=>hrest _ (hne k e _ z))
     ·rw[hnod];split
      ·intro _
       show((uB w j).lines.take c op.block ((uB w j).lines.tok op.block).count true true).1.tok op.block=_
       rw[g1];simp only[upd,if_true];exact hall
      ·exact h.tok k hk2 hki
     ·rw[hR,hi]
      rcases h.st with ⟨h1,h2,h3⟩ | ⟨h1,h2,h3⟩
      ·exact .inl ⟨fun y hy z=>(hmem y hy).elim (fun z2=>h1 y z2 z) (fun z2=>by omega),h2,h3.imp id (fun z=>⟨hrest _ (hne i (fun e=>hji e.symm) _ z.1),z.2⟩)⟩
      ·exact .inr ⟨h1,h2,hrest _ (hne5 _ h3)⟩
    ·exact .inr (.inr (.inr (h.keep hR (fun y hy=>(hmem y hy).imp id (fun z=>by rw[z];exact⟨yB,yB⟩)) (fun y hy hk2=>hrest _ (hD67 y hy hk2)) (by rw[hi];exact h.busy) (by rw[hi];exact h.askd))))
   ·exact tok_split (n':={ uB w j with know:={ (uB w j).know with act:=upd (uB w j).know.act op.block (M ⟨op.block,i,q⟩)},lines:=((uB w j).lines.take c op.block ((uB w j).lines.tok op.block).count true true).1 }) ht2 hI.tok hW.t.len hw vB hjN g1 e1 e2 e3
   ·have:=sendT_wt c (uB w j).id i op.block (split ((uB w j).lines.tok op.block) ((uB w j).lines.tok op.block).count true true).1
    omega
end
section
variable {c:Cfg} {i:Nat} {op:Op} {v vv:Int->Int} {cnt:Nat->Int} {w w':World} {l:Let} {rest ls:List Let} {j:Nat} {n':Node} {d:Drw} {ds:List Done}
theorem regB_true (op:Op) (v:Int->Int):regB op v true=v:=rfl
theorem regB_false (op:Op) (v:Int->Int):regB op v false=reg op v:=rfl
theorem reg_at (op:Op) (v:Int->Int):reg op v op.block=if op.write then op.value else v op.block:=by
 unfold reg;split
 ·simp[upd]
 ·rfl
theorem reg_ne (op:Op) (v:Int->Int) {x:Int} (h:x≠op.block):reg op v x=v x:=by
 unfold reg;split
 ·simp[upd,h]
 ·rfl
theorem dlv_tok (hc:Small c) (hW:WOk c w) (hI:Inv c i op v cnt w) (hD:Dlv c w l rest d w' ds) {s:Int} {t:Bun} (hl:l=tokensL s i op.block t) (hs0:0≤s) (hs1:s≤c.nodes) (hsi:s≠i):Res c i op v cnt w w' ds:=by
 obtain⟨-,-,hwy,-,-,-,-,-,-,-,-,-,hn1,hn2,hb1,hb2,ht1,ht2⟩:=check_ok hc.ok
 have hw:=hD.way
 have hiN:=hI.base.iN
 have hk:l.kind=1:=by rw[hl];rfl
 have hlw:l∈w.way:=by rw[hw];exact wA
 have hb0:=hI.base.b0
 have hb1:=hI.base.b1
 have hlb:l.block=op.block:=by rw[hl];rfl
 have hbun:l.bun=t:=by rw[hl];rfl
 have hld:l.dst=i:=by rw[hl];rfl
 have hg0:=hI.tok.way l hlw hk
 have hg:Good c.tokens (regB op v (uB w i).cpu.busy op.block) t:=by rw[hlb,hbun] at hg0;exact hg0
 have hwl:wt c l=2:=by
  unfold wt;rw[hk,hld,if_pos rfl,if_neg vB]
 obtain⟨e1,e2,e3,e4⟩:=hD.node i hld hiN
 have hid:(uB w i).id=(i:Nat):=hW.t.ids _ hiN
 have hR:=R_same e2 op.block
 have noB:¬ PhB c i op w:=fun h=>by
  have:=(h.first hw).1;rw[this] at hk;have hk3:(3:Int)=1:=hk;omega
 have hrestm:∀ y∈w.way,y.kind≠1->y∈rest:=fun y hy hne=>mem_rest hw hy (fun e=>hne (by rw[e];exact hk))
 have hnn:=hW.node _ (nodeAt_mem hW.t.len hiN)
 have hgood:=hI.tok.node _ (nodeAt_mem hW.t.len hiN)
 have hother:=other_none hW.t hI.base hI.ph
 by_cases hck:l.check c=0
 ·
  obtain⟨-,-,-,-,-,hct⟩:=check_row hck
  have htc:1≤t.count:=by
   have:=(hct (by rw[hk];rfl)).2
   rw[hbun] at this;omega
  rw[tokens_eq (n:=uB w i) d hck (by rw[hld,hid]) hk (by rw[hlb];exact hother)] at e1 e3 e4
  rw[hlb,hbun] at e1 e3 e4
  have hpin:(uB w i).cpu.pinned=op.block∨(uB w i).cpu.pinned < 0:=by
   unfold Proc.pinned
   split
   ·rename_i z;rw[(hI.base.busy z).1];exact .inl rfl
   ·exact .inr vB
  obtain⟨a1,a2,a3⟩:=absorb_mine (v:=regB op v (uB w i).cpu.busy) hnn.cac hwy hb0 hg ht2 htc hpin
  generalize (uB w i).lines.absorb c op.block t (uB w i).cpu.pinned=ab at e1 e3 e4 a1 a2 a3
  have hlen:w.nodes.length=c.nodes.toNat:=hW.t.len
  have h2:=hI.tok.two (j:=i) hlw hk (by rw[hlb];exact hb0) (by rw[hlb];exact hb1) vB
  rw[hlb,hbun] at h2
  have h2:((uB w i).lines.tok op.block).count+t.count≤c.tokens/\ow ((uB w i).lines.tok op.block)+ow t≤1:=h2
  obtain⟨j1,j2,j3⟩:=join_good (hgood op.block) hg h2.1 ht2
  have j3:=j3 h2.2
  obtain⟨o1,ho1,hp1,hp2,hp3,hp4,hp5⟩:∃ o1:List Let,evict c (uB w i).id ab.2={ out0 with letters:=o1 } /\
    (∀ y∈o1,∃ x t',x≠op.block/\y=tokensL i c.nodes x t'/\Good c.tokens (regB op v (uB w i).cpu.busy x) t')/\wsum c o1≤1/\(∀ x,Good c.tokens (regB op v (uB w i).cpu.busy x) (ab.1.tok x)) /\
    (∀ x,cn (ab.1.tok x)+lsum cn x o1=cn ((uB w i).lines.tok x)+(if x=op.block then cn t else 0))/\(∀ x,ow (ab.1.tok x)+lsum ow x o1=ow ((uB w i).lines.tok x)+(if x=op.block then ow t else 0)):=by
   rcases a3 with ⟨q1,q2⟩ | ⟨x,q1,q2,q3,q4⟩
   ·rw[q1]
    refine⟨[],rfl,(fun y hy=>by cases hy),Nat.zero_le _,fun x=>?_,fun x=>?_,fun x=>?_⟩
    ·by_cases e:x=op.block
     ·rw[e,a2];exact j1
     ·rw[q2 x e];exact hgood x
    ·rw[lsum_nil]
     by_cases e:x=op.block
     ·rw[if_pos e,e,a2];omega
     ·rw[if_neg e,q2 x e]
    ·rw[lsum_nil]
     by_cases e:x=op.block
     ·rw[if_pos e,e,a2];omega
     ·rw[if_neg e,q2 x e]
   ·rw[q2]
    refine⟨[tokensL i c.nodes x ((uB w i).lines.tok x)],?_,fun y hy=>⟨x,_,q1,List.mem_singleton.1 hy,hgood x⟩,?_,fun y=>?_,fun y=>?_,fun y=>?_⟩
    ·show({ out0 with letters:=[] ++ [tokensL (uB w i).id c.nodes x ((uB w i).lines.tok x)]}:Out)=_
     rw[hid];rfl
    ·rw[wsum_cons,wsum_nil]
     show(if (1:Int)=1 then (if c.nodes=c.nodes then 1 else 2) else _)+0≤1
     rw[if_pos rfl,if_pos rfl];omega
    ·by_cases e:y=op.block
     ·rw[e,a2];exact j1
     ·by_cases e':y=x
      ·rw[e',q3];exact good_b0 vB
      ·rw[q4 y e e'];exact hgood y
    ·rw[lsum_cons,lsum_nil]
     show _+((if (1:Int)=1/\x=y then cn ((uB w i).lines.tok x) else 0)+0)=_
     by_cases e:y=op.block
     ·rw[if_pos e,if_neg (fun z=>q1 (z.2.trans e)),e,a2];omega
     ·rw[if_neg e]
      by_cases e':y=x
      ·rw[if_pos ⟨rfl,e'.symm⟩,e',q3];show(0:Int)+_=_;omega
      ·rw[if_neg (fun z=>e' z.2.symm),q4 y e e'];omega
    ·rw[lsum_cons,lsum_nil]
     show _+((if (1:Int)=1/\x=y then ow ((uB w i).lines.tok x) else 0)+0)=_
     by_cases e:y=op.block
     ·rw[if_pos e,if_neg (fun z=>q1 (z.2.trans e)),e,a2];omega
     ·rw[if_neg e]
      by_cases e':y=x
      ·rw[if_pos ⟨rfl,e'.symm⟩,e',q3];show(0:Int)+_=_;omega
      ·rw[if_neg (fun z=>e' z.2.symm),q4 y e e'];omega
  rw[ho1] at e1 e3 e4
  have hins:∀ (f:Bun->Int) (x:Int),lsum f x [l]=if x=op.block then f t else 0:=fun f x=>by
   rw[lsum_cons,lsum_nil,hk,hlb,hbun]
   by_cases e:x=op.block
   ·rw[if_pos e,if_pos ⟨rfl,e.symm⟩];omega
   ·rw[if_neg e,if_neg (fun z=>e z.2.symm)];omega
  have ho1k:∀ y∈o1,y.kind=1:=fun y hy=>by obtain⟨x,t',-,rfl,-⟩:=hp1 y hy;rfl
  have ho1s:∀ y∈o1,Shp c i op y/\y.seq≤(R w op.block).seq:=fun y hy=>by
   obtain⟨x,t',hx,rfl,-⟩:=hp1 y hy
   exact⟨.out x t' hx,(seq_lo hW hb0 hb1).1⟩
  rcases settle_cases (c:=c) (n:={ uB w i with lines:=ab.1 }) a1 { out0 with letters:=o1 } with ⟨z1,z2⟩ | ⟨z1,z2,s2,z3,z4,z5⟩
  ·
   rw[z2] at e1 e3 e4
   have e4:ds=[]:=e4
   subst e4
   have e3:w'.way=rest ++ o1:=e3
   have hnod:=nodeAt_set hlen e1 hiN
   have hni:=hnod i
   rw[if_pos rfl] at hni
   have hcpu:(uB w' i).cpu=(uB w i).cpu:=by rw[hni]
   have hmem:∀ y∈w'.way,y∈w.way∨y.kind=1:=fun y hy=>by
    rw[e3] at hy
    exact(List.mem_append.1 hy).imp (rest_way hw) (ho1k y)
   have hout:∀ y∈w.way,y.kind≠1->y∈w'.way:=fun y hy hne=>by rw[e3];exact List.mem_append.2 (.inl (hrestm y hy hne))
   refine⟨⟨hI.base.set hlen hw hiN e1 e2 e3 (fun h=>absurd rfl h) (fun x h0 h1=>hI.base.over i hiN x h0 h1) (fun x h0 h1=>hI.base.told i hiN x h0 h1) (fun x hx=>hI.base.askd i hiN x hx) (fun _ hb=>?_) ho1s,?_,?_,fun k hk2=>?_⟩,?_,by rw[hcpu];exact id,?_⟩
   ·have hb':(uB w i).cpu.busy=true:=hb
    obtain⟨y1,y2,y3,y4⟩:=hI.base.busy hb'
    refine⟨y1,?_,y3,y4⟩
    rcases z1 with z1 | z1
    ·have z1':(uB w i).cpu.busy=false:=z1
     rw[hb'] at z1';cases z1'
    ·have z1':(doOp (uB w i).cpu.op (ab.1.tok (uB w i).cpu.op.block) c.tokens).2.2=false:=z1
     rw[y1] at z1';exact z1'
   ·rcases hI.ph with h | h | h | h
    ·exact .inl (h.keep hR (fun y hy=>(hmem y hy).imp id (fun z=>by omega)) (by rw[hni];exact h.askd) (by rw[hcpu];exact h.tim))
    ·exact absurd h noB
    ·refine .inr (.inr (.inl (h.keep hR hmem (fun y hy hk2=>hout y hy vB) (by rw[e2];exact h.home) (fun k hk2=>?_) (fun k hk2 hki=>?_) (by rw[hcpu]) (by rw[hni]) (by rw[hni]) hiN)))
     ·rw[hnod];split
      ·rename_i e;rw[e]
      ·rfl
     ·rw[hnod,if_neg hki];exact id
    ·exact .inr (.inr (.inr (h.keep hR (fun y hy=>(hmem y hy).imp id (fun z=>by omega)) (fun y hy hk2=>hout y hy vB) (by rw[hcpu];exact h.busy) (by rw[hni];exact h.askd))))
   ·rw[hcpu]
    refine hI.tok.node_move (ins:=[l]) hw vB e1 e2 e3 hp3 (fun y hy _=>?_) (fun x h0 h1=>?_) (fun x h0 h1=>?_) (fun x hx=>absurd rfl hx)
    ·obtain⟨x,t',-,rfl,hx⟩:=hp1 y hy;exact hx
    ·rw[hins];exact hp4 x
    ·rw[hins];exact hp5 x
   ·rw[hnod];split
    ·rename_i e;rw[e];exact hI.num i hiN
    ·exact hI.num k hk2
   ·unfold S.mu
    rw[hcpu,e3,hw,wsum_app,wsum_cons,hwl];omega
   ·rw[hcpu,if_neg]
    ·rfl
    ·rintro⟨h1,h2⟩;rw[h1] at h2;cases h2
  ·
   have hb:(uB w i).cpu.busy=true:=z1
   obtain⟨y1,y2,y3,y4⟩:=hI.base.busy hb
   have z2:(doOp (uB w i).cpu.op (ab.1.tok (uB w i).cpu.op.block) c.tokens).2.2=true:=z2
   have z4:s2.tok=upd ab.1.tok (uB w i).cpu.op.block (doOp (uB w i).cpu.op (ab.1.tok (uB w i).cpu.op.block) c.tokens).1:=z4
   rw[z5] at e1 e3 e4
   rw[y1] at z2 z4
   simp only[y1] at e1 e3 e4
   rw[hb,regB_true] at hp3
   obtain⟨d1,d2,d3,d4,d5⟩:=do_good (hp3 op.block) z2 vB
   have hnum:=hI.num i hiN
   have hds:∀ ds':List Done,ds'=[⟨(uB w i).id,(uB w i).cpu.number,op,(doOp op (ab.1.tok op.block) c.tokens).2.1,0⟩]->ds'.map strip=[doneOf i op v (cnt i)]:=fun ds' h=>by
    rw[h,d1,hid,hnum];rfl
   have key:∀ (n':Node) (ls:List Let),w'.nodes=w.nodes.set i n'->w'.way=rest ++ (o1 ++ ls)->ds.map strip=[doneOf i op v (cnt i)]->n'.lines=s2->n'.know=(uB w i).know->n'.cpu={ (uB w i).cpu with op:=op0,busy:=false } ->
     (∀ x,0≤x->x < c.blocks->n'.told x≤(R w x).seq)->(∀ x,x≠op.block->n'.asked x=(uB w i).asked x) ->
     (ls=[]/\(uB w i).know.act op.block=U/\n'.asked=(uB w i).asked/\n'.told=(uB w i).told∨PhC c i op w/\ls=[⟨5,i,c.nodes,op.block,(R w op.block).seq,0,false,S.b0⟩]/\n'.asked op.block=false/\1≤(R w op.block).seq)->Res c i op v cnt w w' ds:=by
    intro n' ls e1 e3 e4 k1 k2 k3 k4 k5 k6
    have hnod:=nodeAt_set hlen e1 hiN
    have hni:=hnod i
    rw[if_pos rfl] at hni
    have hbf:(uB w' i).cpu.busy=false:=by rw[hni,k3]
    have hlsk:∀ y∈ls,y=⟨5,i,c.nodes,op.block,(R w op.block).seq,0,false,S.b0⟩/\1≤(R w op.block).seq/\PhC c i op w:=fun y hy=>by
     rcases k6 with ⟨q,-⟩ | ⟨q0,q,-,q2⟩
     ·rw[q] at hy;cases hy
     ·rw[q] at hy;exact⟨List.mem_singleton.1 hy,q2,q0⟩
    have hmem:∀ y∈w'.way,y∈w.way∨y.kind=1∨(y.kind=5/\PhC c i op w):=fun y hy=>by
     rw[e3] at hy
     rcases List.mem_append.1 hy with q | q
     ·exact .inl (rest_way hw q)
     ·rcases List.mem_append.1 q with q | q
      ·exact .inr (.inl (ho1k y q))
      ·exact .inr (.inr ⟨by rw[(hlsk y q).1],(hlsk y q).2.2⟩)
    have hout:∀ y∈w.way,y.kind≠1->y∈w'.way:=fun y hy hne=>by rw[e3];exact List.mem_append.2 (.inl (hrestm y hy hne))
    refine⟨⟨hI.base.set hlen hw hiN e1 e2 e3 (fun h=>absurd rfl h) (fun x h0 h1=>by rw[k2];exact hI.base.over i hiN x h0 h1) k4 (fun x hx=>by rw[k5 x (hx.resolve_left (fun z=>z rfl))];exact hI.base.askd i hiN x hx) (fun _ hb2=>by rw[k3] at hb2;cases hb2) (fun y hy=>?_),?_,?_,fun k hk2=>?_⟩,?_,fun _=>hb,?_⟩
    ·rcases List.mem_append.1 hy with q | q
     ·exact ho1s y q
     ·obtain⟨q1,q2,-⟩:=hlsk y q
      rw[q1];exact⟨.done _ q2,Int.le_refl _⟩
    ·rcases hI.ph with h | h | h | h
     ·refine .inl (h.keep hR (fun y hy=>(hmem y hy).imp id (fun z=>by omega)) ?_ (fun hb2=>by rw[hbf] at hb2;cases hb2))
      rw[hni]
      rcases k6 with ⟨-,-,q,-⟩ | ⟨q0,-⟩
      ·rw[q];exact h.askd
      ·have:=q0.on;rw[h.on] at this;cases this
     ·exact absurd h noB
     ·refine .inr (.inr (.inl ⟨by rw[hR];exact h.on,by rw[hR];exact h.en,by rw[hR];exact h.act,fun y hy=>?_,fun k hk2=>?_,by rw[e2];exact h.home,fun k hk2=>?_,fun k hk2 hki=>?_,?_⟩))
      ·rcases hmem y hy with q | q | q
       ·exact h.kin y q
       ·omega
       ·omega
      ·rw[hR,hnod];split
       ·rename_i e;rw[k2];exact h.ovr i hiN
       ·exact h.ovr k hk2
      ·rw[hR,hnod]
       have:(if k=i then n' else uB w k).know=(uB w k).know:=by split;(rename_i e;rw[k2,e]);rfl
       rw[this]
       exact(h.know k hk2).imp id (fun z=>hout _ z (by show(4:Int)≠1;decide))
      ·rw[hnod,if_neg hki];exact h.tok k hk2 hki
      ·rw[hR,hbf,hni,k2]
       rcases k6 with ⟨q1,q2,q3,q4⟩ | ⟨q0,q1,q2,q3⟩
       ·rcases h.st with ⟨h1,h2,h3⟩ | ⟨h1,-⟩
        ·refine .inl ⟨fun y hy=>?_,by rw[q4];exact h2,.inr ⟨hout _ ((h.know i hiN).resolve_left (by rw[q2];exact fun z=>by cases z)) (by show(4:Int)≠1;decide),q2⟩⟩
         rw[e3,q1,List.append_nil] at hy
         rcases List.mem_append.1 hy with q | q
         ·exact h1 y (rest_way hw q)
         ·have:=ho1k y q;omega
        ·rw[h1] at hb;cases hb
       ·exact .inr ⟨rfl,q2,by rw[e3,q1];exact List.mem_append.2 (.inr (List.mem_append.2 (.inr (List.mem_singleton.2 rfl))))⟩
     ·rw[h.busy] at hb;cases hb
    ·rw[hbf,regB_false]
     have hT:=hI.tok
     rw[hb,regB_true] at hT hp1
     have hlsum:∀ (f:Bun->Int) (x:Int),lsum f x (o1 ++ ls)=lsum f x o1:=fun f x=>by
      rw[lsum_app,lsum_no f x ls (fun y hy=>by rw[(hlsk y hy).1];show(5:Int)≠1;decide)];omega
     refine hT.node_move (ins:=[l]) hw vB e1 e2 e3 (fun x=>?_) (fun y hy hk2=>?_) (fun x h0 h1=>?_) (fun x h0 h1=>?_) (fun x hx=>?_)
     ·rw[k1,z4]
      by_cases e:x=op.block
      ·rw[e,reg_at];simp only[upd,if_true];exact d2
      ·rw[reg_ne op v e];simp only[upd,if_neg e];exact hp3 x
     ·rcases List.mem_append.1 hy with q | q
      ·obtain⟨x,t',hx,rfl,hx2⟩:=hp1 y q
       show Good c.tokens (reg op v x) t'
       rw[reg_ne op v hx];exact hx2
      ·rw[(hlsk y q).1] at hk2
       have hk3:(5:Int)=1:=hk2
       omega
     ·rw[hlsum,hins,k1,z4]
      have:=hp4 x
      by_cases e:x=op.block
      ·rw[if_pos e] at this ⊢;rw[e] at this ⊢;simp only[upd,if_true,d4];exact this
      ·simp only[upd,if_neg e] at this ⊢;exact this
     ·rw[hlsum,hins,k1,z4]
      have:=hp5 x
      by_cases e:x=op.block
      ·rw[if_pos e] at this ⊢;rw[e] at this ⊢;simp only[upd,if_true,d5];exact this
      ·simp only[upd,if_neg e] at this ⊢;exact this
     ·by_cases e:x=op.block
      ·rw[e] at hx ⊢
       have hwr:op.write=true:=by
        rw[reg_at] at hx
        cases hwr:op.write
        ·rw[hwr] at hx;simp at hx
        ·rfl
       refine⟨hb0,hb1,?_⟩
       rw[k1,z4];simp only[upd,if_true]
       have:=d3 hwr
       show cn (doOp op (ab.1.tok op.block) c.tokens).1=_
       rw[d4];exact this
      ·exact absurd (reg_ne op v e) hx
    ·rw[hnod];split
     ·rename_i e;rw[k3,e];exact hI.num i hiN
     ·exact hI.num k hk2
    ·unfold S.mu
     have hp0:pot c (uB w' i).cpu=0:=by unfold pot;rw[hbf];rfl
     have hp10:10≤pot c (uB w i).cpu:=by unfold pot;rw[hb];simp only[if_true];omega
     have hls10:wsum c ls≤10:=by
      rcases k6 with ⟨q,-⟩ | ⟨-,q,-⟩
      ·rw[q];exact Nat.zero_le _
      ·rw[q];show 10≤10;omega
     rw[hp0,e3,hw,wsum_app,wsum_app,wsum_cons,hwl];omega
    ·rw[hb,hbf,if_pos ⟨rfl,rfl⟩];exact e4
   have hTI:=hW.t
   cases hact:(uB w i).know.act op.block with
   | none =>
    rw[end_none _ _ (by unfold Node.own;simp only[hact])] at e1 e3 e4
    exact key _ [] e1 (by rw[e3];simp) (hds _ e4) rfl rfl rfl (fun x h0 h1=>hI.base.told i hiN x h0 h1) (fun _ _=>rfl) (.inl ⟨rfl,hact,rfl,rfl⟩)
   | some a =>
    have hC:PhC c i op w:=by
     rcases hI.ph with h | h | h | h
     ·rw[rest_none hTI hb0 hb1 h.on h.en hiN] at hact;cases hact
     ·exact absurd h noB
     ·exact h
     ·rw[h.busy] at hb;cases hb
    have ha:=(know_act hTI hb0 hb1 hiN hact).1
    rw[hC.act] at ha
    subst ha
    have htold:(uB w i).told op.block < (R w op.block).seq:=by
     rcases hC.st with ⟨-,h2,-⟩ | ⟨h1,-⟩
     ·exact h2
     ·rw[h1] at hb;cases hb
    have hs1:1≤(R w op.block).seq:=by
     have hbi:=hTI.all.row hb0 (by rw[hTI.rl];omega)
     exact(hbi.know i hiN _ hact).2.1
    rcases end_mine (c:=c) (n:={ uB w i with lines:=s2,cpu:={ (uB w i).cpu with op:=op0,busy:=false }}) (b:=op.block) (a:=⟨op.block,i,(R w op.block).seq⟩) { out0 with letters:=o1,done:=[] ++ [⟨(uB w i).id,(uB w i).cpu.number,op,(doOp op (ab.1.tok op.block) c.tokens).2.1,0⟩]} hact (by rw[hid]) with ⟨q1,q2⟩ | ⟨q1,q2⟩
    ·have q1':(R w op.block).seq≤(uB w i).told op.block:=q1
     omega
    ·have q2':=q2
     unfold out0 at q2'
     simp only[out0] at e1 e3 e4
     rw[q2'] at e1 e3 e4
     refine key _ [⟨5,i,c.nodes,op.block,(R w op.block).seq,0,false,S.b0⟩] e1 ?_ (hds _ e4) rfl rfl rfl (fun x h0 h1=>?_) (fun x hx=>?_) (.inr ⟨hC,rfl,?_,hs1⟩)
     ·rw[e3]
      show rest ++ (o1 ++ [(⟨5,(uB w i).id,c.nodes,op.block,(R w op.block).seq,0,false,S.b0⟩:Let)])=_
      rw[hid]
     ·show upd _ _ _ _≤_
      unfold upd;split
      ·rename_i e;rw[e];exact Int.le_refl _
      ·exact hI.base.told i hiN x h0 h1
     ·simp[upd,hx]
     ·simp[upd]
 ·
  have htk:(uB w i).take c l d=(uB w i,out0):=by unfold Node.take;rw[if_pos (.inl hck)]
  rw[htk] at e1 e3 e4
  have e4:ds=[]:=e4
  subst e4
  have e3:w'.way=rest ++ []:=e3
  have hz:t.count≤0:=Classical.not_not.1 fun q=>hck (by rw[hl];exact tok_check hg vB hb0 hb1 hs0 hs1 vB vB hsi)
  have ht0:=hg.none hz
  have hnod:∀ k,uB w' k=uB w k:=fun k=>by
   rw[nodeAt_set hW.t.len e1 hiN];split
   ·rename_i e;rw[e]
   ·rfl
  have hin:∀ y∈w'.way,y∈w.way:=fun y hy=>rest_way hw (by rw[e3] at hy;simpa using hy)
  have hout:∀ y∈w.way,y.kind≠1->y∈w'.way:=fun y hy hne=>by rw[e3];simpa using hrestm y hy hne
  refine Res.other (n':=uB w i) hW hI hw hiN (fun _=>rfl) e1 e2 e3 rfl (fun x h0 h1=>hI.base.over i hiN x h0 h1) (fun x h0 h1=>hI.base.told i hiN x h0 h1) (fun x hx=>hI.base.askd i hiN x hx) (fun y hy=>by cases hy) ?_ (tok_quiet hI.tok hW.t.len hw (fun y _ _=>?_) hiN rfl e1 e2 (fun y hy=>by cases hy) e3) (wt_pos c l)
  ·rcases hI.ph with h | h | h | h
   ·exact .inl (h.keep hR (fun y hy=>.inl (hin y hy)) (by rw[hnod];exact h.askd) (by rw[hnod];exact h.tim))
   ·exact absurd h noB
   ·exact .inr (.inr (.inl (h.keep hR (fun y hy=>.inl (hin y hy)) (fun y hy hk2=>hout y hy vB) (by rw[e2];exact h.home) (fun k _=>by rw[hnod]) (fun k _ _=>by rw[hnod];exact id) (by rw[hnod]) (by rw[hnod]) (by rw[hnod]) hiN)))
   ·exact .inr (.inr (.inr (h.keep hR (fun y hy=>.inl (hin y hy)) (fun y hy hk2=>hout y hy vB) (by rw[hnod];exact h.busy) (by rw[hnod];exact h.askd))))
  ·rw[lsum_cons,lsum_cons,lsum_nil,lsum_nil,hbun,ht0]
   have e1:cn S.b0=0:=rfl
   have e2:ow S.b0=0:=rfl
   rw[e1,e2];simp
end
section
variable {c:Cfg} {i:Nat} {op:Op} {v vv:Int->Int} {cnt:Nat->Int} {w w':World} {l:Let} {rest ls:List Let} {j:Nat} {n':Node} {d:Drw} {ds:List Done}
theorem dlv_any (hc:Small c) (hW:WOk c w) (hst:w.steps≤2000000) (hI:Inv c i op v cnt w) (hD:Dlv c w l rest d w' ds):Res c i op v cnt w w' ds:=by
 have hs:=(hI.base.shp l (by rw[hD.way];exact wA)).1
 cases hs with
 | tok s t h0 h1 h2=>exact dlv_tok hc hW hI hD rfl h0 h1 h2
 | out x t h0=>exact dlv_out hc hW hI hD rfl h0
 | ask t h0 h1 h2=>exact dlv_ask hc hW hI hD rfl h0 h1 h2
 | per=>exact dlv_per hc hW hst hI hD rfl
 | act j q h0 h1=>exact dlv_act hc hW hI hD rfl h0 h1
 | done q h0=>exact dlv_done hc hW hI hD rfl h0
 | deact j q h0 h1=>exact dlv_deact hc hW hI hD rfl h0 h1
 | ack j q h0 h1=>exact dlv_ack hc hW hI hD rfl h0 h1
theorem nsum_zero (f:Bun->Int) (x:Int):∀ ns:List Node,(∀ n∈ns,f (n.lines.tok x)=0)->nsum f x ns=0
 | [],_=>rfl
 | y :: ns,h=>by
  have:=nsum_zero f x ns (fun n hn=>h n (kB _ hn))
  have h0:=h y wA
  unfold nsum at this ⊢
  simp only[List.map_cons,List.sum_cons];omega
theorem nsum_only (f:Bun->Int) (x:Int):∀ (ns:List Node) (i:Nat) (d:Nat->Node),i < ns.length->(∀ j,j < ns.length->j≠i->f ((ns.getD j (d j)).lines.tok x)=0)->nsum f x ns=f ((ns.getD i (d i)).lines.tok x)
 | [],i,d,h,_=>by cases h
 | y :: ns,0,d,_,h=>by
  have hz:nsum f x ns=0:=nsum_zero f x ns (fun n hn=>by
   obtain⟨k,hk,rfl⟩:=List.getElem_of_mem hn
   have:=h (k+1) (by simp;exact hk) vB
   rw[List.getD_cons_succ,cB,dB hk] at this
   exact this)
  unfold nsum at hz ⊢
  simp only[List.map_cons,List.sum_cons,List.getD_cons_zero];omega
 | y :: ns,i+1,d,hi,h=>by
  have h0:=h 0 zB vB
  have:=nsum_only f x ns i (fun j=>d (j+1)) (by simpa using hi) (fun j hj hne=>by
   have:=h (j+1) (by simp;exact hj) vB
   rw[List.getD_cons_succ] at this;exact this)
  unfold nsum at this ⊢
  simp only[List.map_cons,List.sum_cons,List.getD_cons_zero,List.getD_cons_succ] at h0 this ⊢
  omega
theorem still_A (hc:Small c) (hW:WOk c w) (hI:Inv c i op v cnt w) (hw:w.way=[]):PhA c i op w:=by
 obtain⟨-,-,-,-,-,-,-,-,-,-,-,-,hn1,hn2,hb1,hb2,ht1,ht2⟩:=check_ok hc.ok
 have hb0:=hI.base.b0
 have hb1:=hI.base.b1
 have hiN:=hI.base.iN
 rcases hI.ph with h | h | h | h
 ·exact h
 ·have:=h.way;rw[hw] at this;cases this
 ·exfalso
  have no:∀ x:Let,x∉w.way:=fun x hx=>by rw[hw] at hx;cases hx
  have hb:(uB w i).cpu.busy=true:=by
   rcases h.st with ⟨-,-,h3⟩ | ⟨-,-,h3⟩
   ·exact h3.resolve_right (fun z=>no _ z.1)
   ·exact absurd h3 (no _)
  have hz:∀ k,k < c.nodes.toNat->k≠i->(uB w k).lines.tok op.block=S.b0:=fun k hk hki=>h.tok k hk hki (by
   rw[(h.know k hk).resolve_right (no _)];exact fun z=>by cases z)
  have hl:=hW.t.len
  have key:∀ f:Bun->Int,f S.b0=0->tally f op.block w=f ((uB w i).lines.tok op.block):=fun f hf=>by
   unfold tally
   rw[h.home,hf,hw,lsum_nil,nsum_only f op.block w.nodes i (fun j=>Node.new j) vB (fun j hj hne=>by
    have:=hz j vB hne
    unfold uB at this
    rw[this,hf])]
   unfold uB;omega
  have h1:=hI.tok.cnt op.block hb0 hb1
  have h2:=hI.tok.own op.block hb0 hb1
  rw[key cn rfl] at h1
  rw[key ow rfl] at h2
  have hg:=hI.tok.node _ (nodeAt_mem hl hiN) op.block
  have ho:((uB w i).lines.tok op.block).owner=true:=by
   unfold ow at h2
   split at h2
   ·assumption
   ·omega
  have:=do_all hg op h1 ho vB
  rw[(hI.base.busy hb).2.1] at this;cases this
 ·exfalso
  have no:∀ x:Let,x∉w.way:=fun x hx=>by rw[hw] at hx;cases hx
  refine h.ne ?_
  have hg:∀ k,(R w op.block).knows.getD k false=decide ((k:Int) < c.nodes):=fun k=>by
   by_cases hk:k < c.nodes.toNat
   ·rw[(h.all k hk).resolve_right (fun z=>z.elim (no _) (no _)),decide_eq_true vB]
   ·rw[h.hi k vB,decide_eq_false vB]
  refine List.ext_getElem (by rw[h.len];simp) (fun k h1 h2=>?_)
  have:=hg k
  rw[cB,dB h1] at this
  simpa using this
structure Tck (c:Cfg) (i:Nat) (w:World) (d:Drw) (w':World) (ds:List Done):Prop where
 way:w.way=[]
 nodes:w'.nodes=w.nodes.set i ((uB w i).tick c d).1
 home:w'.home=w.home
 out:w'.way=((uB w i).tick c d).2.letters
 don:ds=((uB w i).tick c d).2.done
theorem dbl_le {c:Cfg} (hc:Small c) {t:Int} (h0:0≤t) (h1:t < c.tries):max (double c.wait (wrap64 (t+1)) 1048576) 1≤24/\wrap64 (t+1)=t+1:=by
 obtain⟨-,-,-,-,-,-,hw1,-,-,-,-,-,-,-,-,-,-,-⟩:=check_ok hc.ok
 have h2:=hc.w
 have h3:=hc.t
 have e:wrap64 (t+1)=t+1:=wrap_id vB vB
 rw[e]
 refine⟨?_,rfl⟩
 have ht:t=0∨t=1∨t=2:=vB
 have hw:c.wait=1∨c.wait=2∨c.wait=3:=vB
 rcases hw with hw | hw | hw <;> rcases ht with ht | ht | ht <;> rw[hw,ht] <;> decide
theorem targets_ok (hc:Small c) {n:Node} {id:Int}:(targets c id d).length≤5/\∀ t∈targets c id d,0≤t/\t≤c.nodes/\t≠id:=by
 have:=hc.n
 obtain⟨-,-,-,-,-,-,-,-,-,-,-,-,hn1,-,-,-,-,-⟩:=check_ok hc.ok
 unfold targets
 rw[if_neg vB]
 refine⟨lB (List.length_filter_le _ _) (by simp;omega),fun t ht=>?_⟩
 obtain⟨h1,h2⟩:=List.mem_filter.1 ht
 obtain⟨k,hk,rfl⟩:=List.mem_map.1 h1
 have:=List.mem_range.1 hk
 simp only[Bool.and_eq_true,bne_iff_ne,ne_eq] at h2
 exact⟨vB,vB,h2.2⟩
theorem ptick {p:Proc} (hb:p.busy=true) (hov:p.over=false):p.tick c=if p.left > 1 then ({ p with left:=wrap64 (p.left - 1)},0) else if p.tried < c.tries then ({ p with tried:=wrap64 (p.tried+1),left:=max (double c.wait (wrap64 (p.tried+1)) 1048576) 1 },1) else ({ p with left:=0,over:=true },2):=by
 unfold Proc.tick
 rw[if_neg (by rw[hb];simp),if_neg (by rw[hov];simp)]
def askL (c:Cfg) (id:Int) (op:Op) (d:Drw):List Let:=(targets c id d).map fun to_=>(⟨2,id,to_,op.block,0,0,op.write,b0⟩:Let)
theorem askL_ok (hc:Small c) (hi:(i:Int) < c.nodes):(∀ y∈askL c i op d,Shp c i op y/\y.seq=0/\y.kind=2)/\wsum c (askL c i op d)≤15:=by
 obtain⟨h1,h2⟩:=targets_ok (c:=c) (d:=d) (n:=Node.new 0) hc (id:=i)
 have h3:∀ y∈askL c i op d,Shp c i op y/\y.seq=0/\y.kind=2:=fun y hy=>by
  obtain⟨t,ht,rfl⟩:=List.mem_map.1 hy
  obtain⟨q1,q2,q3⟩:=h2 t ht
  exact⟨.ask t q1 q2 q3,rfl,rfl⟩
 refine⟨h3,?_⟩
 have:=wsum_all (c:=c) (k:=3) (askL c i op d) (fun y hy=>by
  have:=(h3 y hy).2.2
  unfold wt;rw[this]
  show 3≤3;omega)
 have h4:(askL c i op d).length=(targets c i d).length:=by unfold askL;simp
 omega
theorem tck_any (hc:Small c) (hW:WOk c w) (hI:Inv c i op v cnt w) (hb:(uB w i).cpu.busy=true) (hT:Tck c i w d w' ds):Res c i op v cnt w w' ds:=by
 have hw:=hT.way
 have hA:=still_A hc hW hI hw
 have hov:=hA.tim hb
 obtain⟨y1,y2,y3,y4⟩:=hI.base.busy hb
 have hiN:=hI.base.iN
 have hb0:=hI.base.b0
 have hb1:=hI.base.b1
 have hlen:=hW.t.len
 have hid:(uB w i).id=(i:Nat):=hW.t.ids _ hiN
 obtain⟨-,e1,e2,e3,e4⟩:=hT
 have hs0:=(seq_lo hW hb0 hb1).1
 have key:∀ (n':Node) (ls:List Let),w'.nodes=w.nodes.set i n'->w'.way=ls->ds=[]->n'.lines=(uB w i).lines->n'.know=(uB w i).know->n'.told=(uB w i).told->n'.cpu.busy=true->n'.cpu.op=op->n'.cpu.number=(uB w i).cpu.number->0≤n'.cpu.tried->n'.cpu.tried≤c.tries/\n'.cpu.left≤24 ->
   (∀ x,x≠op.block->n'.asked x=(uB w i).asked x)->(∀ y∈ls,Shp c i op y/\y.seq=0/\y.kind≠1)->wsum c ls+pot c n'.cpu < pot c (uB w i).cpu ->
   ((∀ y∈ls,y.kind≠3)/\n'.asked=(uB w i).asked/\n'.cpu.over=false∨ls=[⟨3,i,c.nodes,op.block,0,0,false,S.b0⟩])->Res c i op v cnt w w' ds:=by
  intro n' ls e1 e3 e4 k1 k2 k3 k4 k5 k6 k7 k8 k9 k10 k11 k12
  subst e4
  have hnod:=nodeAt_set hlen e1 hiN
  have hni:=hnod i
  rw[if_pos rfl] at hni
  have hbb:(uB w' i).cpu.busy=true:=by rw[hni];exact k4
  have hR:=R_same e2 op.block
  have e3':w'.way=[] ++ ls:=by rw[e3];rfl
  refine⟨⟨hI.base.set0 hlen (fun x hx=>by cases hx) hiN e1 e2 e3' (fun h=>absurd rfl h) (fun x h0 h1=>by rw[k2];exact hI.base.over i hiN x h0 h1) (fun x h0 h1=>by rw[k3];exact hI.base.told i hiN x h0 h1) (fun x hx=>by rw[k9 x (hx.resolve_left (fun z=>z rfl))];exact hI.base.askd i hiN x hx) (fun _ _=>⟨k5,by rw[k1];exact y2,k7,k8⟩) (fun y hy=>⟨(k10 y hy).1,by rw[(k10 y hy).2.1];exact hs0⟩),?_,?_,fun k hk=>?_⟩,?_,fun _=>hb,?_⟩
  ·rcases k12 with ⟨q1,q2,q3⟩ | q1
   ·exact .inl (hA.keep hR (fun y hy=>.inr (q1 y (by rw[<- e3];exact hy))) (by rw[hni,q2];exact hA.askd) (fun _=>by rw[hni];exact q3))
   ·exact .inr (.inl ⟨by rw[hR];exact hA.on,by rw[hR];exact hA.en,by rw[e3,q1],hbb⟩)
  ·rw[hbb]
   have ht:=hI.tok
   rw[hb] at ht
   refine ht.node_move (ins:=[]) (rest:=[]) hw vB e1 e2 e3' (fun x=>by rw[k1];exact ht.node _ (nodeAt_mem hlen hiN) x) (fun y hy hk=>absurd hk (k10 y hy).2.2) (fun x h0 h1=>?_) (fun x h0 h1=>?_) (fun x hx=>absurd rfl hx)
   ·rw[lsum_no _ _ _ (fun y hy=>(k10 y hy).2.2),lsum_nil,k1];rfl
   ·rw[lsum_no _ _ _ (fun y hy=>(k10 y hy).2.2),lsum_nil,k1];rfl
  ·rw[hnod];split
   ·rename_i e;rw[k6,e];exact hI.num i hiN
   ·exact hI.num k hk
  ·unfold S.mu
   rw[hni,e3,hw,wsum_nil];omega
  ·rw[hb,hbb,if_neg]
   ·rfl
   ·rintro⟨-,h2⟩;cases h2
 have hpot:pot c (uB w i).cpu=10+((uB w i).cpu.left.toNat+60 * (c.tries - (uB w i).cpu.tried).toNat+61):=by unfold pot;rw[hb,hov];rfl
 by_cases c1:(uB w i).cpu.left > 1
 ·have hwr:wrap64 ((uB w i).cpu.left - 1)=(uB w i).cpu.left - 1:=wrap_id vB (by have:=y4.2;omega)
  have ht:(uB w i).tick c d=({ uB w i with cpu:={ (uB w i).cpu with left:=(uB w i).cpu.left - 1 }},out0):=by
   unfold Node.tick
   rw[ptick hb hov,if_pos c1,hwr]
   rfl
  rw[ht] at e1 e3 e4
  refine key _ [] e1 e3 e4 rfl rfl rfl hb y1 rfl y3 ⟨y4.1,by show(uB w i).cpu.left - 1≤24;omega⟩ (fun _ _=>rfl) (fun y hy=>by cases hy) ?_ (.inl ⟨(fun y hy=>by cases hy),rfl,hov⟩)
  rw[hpot,wsum_nil]
  unfold pot
  simp only[hb,hov,if_true,vA,if_false]
  omega
 ·by_cases c2:(uB w i).cpu.tried < c.tries
  ·obtain⟨d1,d2⟩:=dbl_le hc y3 c2
   have ht:(uB w i).tick c d=({ uB w i with cpu:={ (uB w i).cpu with tried:=wrap64 ((uB w i).cpu.tried+1),left:=max (double c.wait (wrap64 ((uB w i).cpu.tried+1)) 1048576) 1 }},{ out0 with letters:=askL c i op d }):=by
    unfold Node.tick
    rw[ptick hb hov,if_neg c1,if_pos c2]
    refine Prod.ext rfl ?_
    show(uB w i).ask c (uB w i).cpu.op d out0=_
    unfold Node.ask askL
    rw[hid,y1]
    rfl
   rw[ht] at e1 e3 e4
   generalize max (double c.wait (wrap64 ((uB w i).cpu.tried+1)) 1048576) 1=L at e1 d1
   rw[d2] at e1
   obtain⟨a1,a2⟩:=askL_ok (op:=op) (d:=d) hc (i:=i) vB
   refine key _ (askL c i op d) e1 e3 e4 rfl rfl rfl hb y1 rfl (by show 0≤(uB w i).cpu.tried+1;omega) ⟨by show(uB w i).cpu.tried+1≤_;omega,d1⟩ (fun _ _=>rfl) (fun y hy=>⟨(a1 y hy).1,(a1 y hy).2.1,by rw[(a1 y hy).2.2];decide⟩) ?_ (.inl ⟨fun y hy=>by rw[(a1 y hy).2.2];decide,rfl,hov⟩)
   rw[hpot]
   unfold pot
   simp only[hb,hov,if_true,vA,if_false]
   omega
  ·have ht:(uB w i).tick c d=({ uB w i with cpu:={ (uB w i).cpu with left:=0,over:=true },asked:=upd (uB w i).asked op.block true },{ out0 with letters:=[⟨3,i,c.nodes,op.block,0,0,false,S.b0⟩]}):=by
    unfold Node.tick
    rw[ptick hb hov,if_neg c1,if_neg c2]
    have ha:¬ (uB w i).asked (uB w i).cpu.op.block=true:=by rw[y1,hA.askd];simp
    show(if (uB w i).asked (uB w i).cpu.op.block=true then _ else _)=_
    rw[if_neg ha]
    refine Prod.ext ?_ ?_
    ·show({ uB w i with cpu:={ (uB w i).cpu with left:=0,over:=true },asked:=upd (uB w i).asked (uB w i).cpu.op.block true }:Node)=_
     rw[y1]
    ·show out0.send ((uB w i).home c 3 (uB w i).cpu.op.block 0)=_
     unfold Out.send Node.home
     rw[hid,y1]
     rfl
   rw[ht] at e1 e3 e4
   refine key _ [⟨3,i,c.nodes,op.block,0,0,false,S.b0⟩] e1 e3 e4 rfl rfl rfl hb y1 rfl y3 ⟨y4.1,by show(0:Int)≤24;decide⟩ (fun x hx=>by simp[upd,hx]) (fun y hy=>?_) ?_ (.inr rfl)
   ·rw[List.mem_singleton.1 hy];exact⟨.per,rfl,by show(3:Int)≠1;decide⟩
   ·rw[hpot]
    unfold pot
    simp only[hb,if_true]
    show 60+0+(10+0) < _
    omega
end
end Go.Proofs.YtiebppkhaiofeaaGreat.S
