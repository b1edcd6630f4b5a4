/- Part of the proof of TopPolicies: what functions of the program do. -/
import Derived.Test.YtiebppkhaiofeaaGreatP17
import Derived.Test.YtiebppkhaiofeaaGreatP00
set_option maxHeartbeats 4000000
set_option maxRecDepth 100000
set_option linter.unusedVariables false
set_option linter.unusedSimpArgs false
open List renaming getD_eq_getElem?_getD→cB, getElem?_eq_getElem→dB, mem_cons_self→wA, length_append→xA
open Nat renaming le_trans→lB
open Go.Proofs.YtiebppkhaiofeaaGreat.S renaming nodeAt→uB
open Bool renaming false_eq_true→vA
namespace Go.Proofs.YtiebppkhaiofeaaGreat.S
open Go.RowKit (wrap64)
structure Q (c:Cfg) (v:Int->Int) (cnt:Nat->Int) (w:World):Prop where
 way:w.way=[]
 mem:w.home.mem.length=c.blocks.toNat
 rest:∀ x,0≤x->x < c.blocks->(R w x).on=false/\(R w x).ending=false/\(R w x).queue=[]
 idle:∀ j,j < c.nodes.toNat->(uB w j).cpu.busy=false
 num:∀ j,j < c.nodes.toNat->(uB w j).cpu.number=cnt j
 over:∀ j,j < c.nodes.toNat->∀ x,0≤x->x < c.blocks->(uB w j).know.over x≤(R w x).seq
 told:∀ j,j < c.nodes.toNat->∀ x,0≤x->x < c.blocks->(uB w j).told x≤(R w x).seq
 askd:∀ j,j < c.nodes.toNat->∀ x,(uB w j).asked x=false
 tok:Tok c v w
section
variable {c:Cfg} {i:Nat} {op:Op} {v vv:Int->Int} {cnt:Nat->Int} {w w':World} {l:Let} {rest ls:List Let} {j:Nat} {n':Node} {d:Drw} {ds:List Done}
theorem Tok.congr (h:Tok c v w) (e1:w'.nodes=w.nodes) (e2:w'.home=w.home) (e3:w'.way=w.way):Tok c v w' :=
 ⟨by rw[e1];exact h.node,by rw[e2];exact h.home,by rw[e3];exact h.way,fun x h0 h1=>by have:=h.cnt x h0 h1;unfold tally at this ⊢;rw[e1,e2,e3];exact this,fun x h0 h1=>by have:=h.own x h0 h1;unfold tally at this ⊢;rw[e1,e2,e3];exact this⟩
theorem Q.congr (h:Q c v cnt w) (e1:w'.nodes=w.nodes) (e2:w'.home=w.home) (e3:w'.way=w.way):Q c v cnt w':=by
 have hn:=nodeAt_same (w:=w) e1
 have hr:=R_same (w:=w) e2
 exact⟨by rw[e3];exact h.way,by rw[e2];exact h.mem,fun x h0 h1=>by rw[hr];exact h.rest x h0 h1,fun j hj=>by rw[hn];exact h.idle j hj,fun j hj=>by rw[hn];exact h.num j hj,fun j hj x h0 h1=>by rw[hn,hr];exact h.over j hj x h0 h1,fun j hj x h0 h1=>by rw[hn,hr];exact h.told j hj x h0 h1,fun j hj x=>by rw[hn];exact h.askd j hj x,h.tok.congr e1 e2 e3⟩
theorem Inv.still (hc:Small c) (hW:WOk c w) (hI:Inv c i op v cnt w) (hw:w.way=[]) (hb:(uB w i).cpu.busy=false):Q c (reg op v) cnt w:=by
 have hA:=still_A hc hW hI hw
 have ht:=hI.tok
 rw[hb] at ht
 refine⟨hw,hI.base.mem,fun x h0 h1=>?_,fun j hj=>?_,hI.num,hI.base.over,hI.base.told,fun j hj x=>?_,ht⟩
 ·by_cases e:x=op.block
  ·rw[e];exact⟨hA.on,hA.en,hI.base.que⟩
  ·exact hI.base.rest x h0 h1 e
 ·by_cases e:j=i
  ·rw[e];exact hb
  ·exact hI.base.idle j hj e
 ·by_cases e:j=i/\x=op.block
  ·rw[e.1,e.2];exact hA.askd
  ·exact hI.base.askd j hj x (by
    by_cases e1:j=i
    ·exact .inr (fun e2=>e ⟨e1,e2⟩)
    ·exact .inl e1)
theorem strip_step (ds:List Done) (s:Int):(ds.map fun d=>{ d with step:=s }).map strip=ds.map strip:=by
 rw[List.map_map];rfl
theorem acts_dlv {x y z:Int} (hw:w.way=l :: rest):w.acts c ⟨2,0,x,y,z⟩=if l.dst=c.nodes then (true,{ w with way:=rest,home:=(w.home.take c l ⟨x,y,z⟩).1 },(w.home.take c l ⟨x,y,z⟩).2,[]) else (true,{ w with way:=rest,nodes:=w.nodes.set l.dst.toNat ((w.node l.dst).take c l ⟨x,y,z⟩).1 },((w.node l.dst).take c l ⟨x,y,z⟩).2.letters,((w.node l.dst).take c l ⟨x,y,z⟩).2.done):=by
 unfold World.acts
 rw[if_neg (show ¬ (2:Int)=1 by decide),if_pos rfl,dif_pos ⟨show(0:Int)≤0 by decide,by rw[hw];simp⟩]
 simp[hw]
theorem step_dlv (hc:Small c) (hW:WOk c w) (hst:w.steps≤2000000) (hmu:mu c i w≤400) (hI:Inv c i op v cnt w) (hw:w.way=l :: rest) (d:Drw) :
  ∃ w' ds,w.step c ⟨2,0,d.x,d.y,d.z⟩=(w',1,ds)/\Res c i op v cnt w w' ds:=by
 obtain⟨-,-,-,-,-,-,-,-,-,-,-,-,hn1,hn2,hb1,hb2,ht1,ht2⟩:=check_ok hc.ok
 have hdst:=hW.dst l (by rw[hw];exact wA)
 have hcap:=hc.cap
 have hA:=acts_dlv (c:=c) (w:={ w with steps:=wrap64 (w.steps+1)}) (x:=d.x) (y:=d.y) (z:=d.z) hw
 have hleg:Ent.legal c ⟨2,0,d.x,d.y,d.z⟩=true:=rfl
 unfold World.step
 simp only
 rw[hleg,hA]
 simp only[Bool.not_true,vA,if_false]
 by_cases e:l.dst=c.nodes
 ·simp only[if_pos e,Bool.not_true,vA,if_false]
  have hD:Dlv c w l rest d { ({ w with steps:=wrap64 (w.steps+1)}:World) with way:=rest ++ (w.home.take c l ⟨d.x,d.y,d.z⟩).2,home:=(w.home.take c l ⟨d.x,d.y,d.z⟩).1 } [] :=
   ⟨hw,fun _=>⟨rfl,rfl,rfl,rfl⟩,fun j h1 h2=>by omega⟩
  have hR:=dlv_any hc hW hst hI hD
  have hm:=hR.mu
  have h2:=wsum_len c (rest ++ (w.home.take c l ⟨d.x,d.y,d.z⟩).2)
  have h3:wsum c (rest ++ (w.home.take c l ⟨d.x,d.y,d.z⟩).2)≤mu c i { ({ w with steps:=wrap64 (w.steps+1)}:World) with way:=rest ++ (w.home.take c l ⟨d.x,d.y,d.z⟩).2,home:=(w.home.take c l ⟨d.x,d.y,d.z⟩).1 }:=by
   unfold S.mu;exact Nat.le_add_right _ _
  rw[xA] at h2
  rw[if_neg vB]
  exact⟨_,_,rfl,hR⟩
 ·simp only[if_neg e,Bool.not_true,vA,if_false]
  have hj:l.dst.toNat < c.nodes.toNat:=vB
  have hnd:w.node l.dst=uB w l.dst.toNat:=by
   rw[node_at l.dst hdst.1 (by rw[hW.t.len];exact hj)];rfl
  have hnd2:World.node { w with steps:=wrap64 (w.steps+1)} l.dst=uB w l.dst.toNat:=hnd
  rw[hnd2]
  generalize hr:(uB w l.dst.toNat).take c l ⟨d.x,d.y,d.z⟩=r
  have hD:Dlv c w l rest d { ({ w with steps:=wrap64 (w.steps+1)}:World) with way:=rest ++ r.2.letters,nodes:=w.nodes.set l.dst.toNat r.1 } r.2.done :=
   ⟨hw,fun h=>absurd h e,fun j h1 h2=>by
    have:j=l.dst.toNat:=vB
    subst this
    show _/\_/\_/\_
    rw[show(uB w l.dst.toNat).take c l d=r from hr]
    exact⟨rfl,rfl,rfl,rfl⟩⟩
  have hR:=dlv_any hc hW hst hI hD
  have hm:=hR.mu
  have h2:=wsum_len c (rest ++ r.2.letters)
  have h3:wsum c (rest ++ r.2.letters)≤mu c i { ({ w with steps:=wrap64 (w.steps+1)}:World) with way:=rest ++ r.2.letters,nodes:=w.nodes.set l.dst.toNat r.1 }:=by
   unfold S.mu;exact Nat.le_add_right _ _
  rw[xA] at h2
  rw[if_neg vB]
  exact⟨_,_,rfl,hR.inv,hR.mu,hR.mon,by rw[strip_step];exact hR.don⟩
theorem flat_only {α β:Type} (f:α->List β):∀ (l:List α) (i:Nat) (d:α),i < l.length->(∀ j,j < l.length->j≠i->f (l.getD j d)=[])->l.flatMap f=f (l.getD i d)
 | [],i,d,h,_=>by cases h
 | y :: l,0,d,_,h=>by
  have hz:l.flatMap f=[]:=by
   rw[List.flatMap_eq_nil_iff]
   intro x hx
   obtain⟨k,hk,rfl⟩:=List.getElem_of_mem hx
   have:=h (k+1) (by simp;exact hk) vB
   rw[List.getD_cons_succ,cB,dB hk] at this
   exact this
  rw[List.flatMap_cons,hz];simp
 | y :: l,i+1,d,hi,h=>by
  have h0:=h 0 zB vB
  have:=flat_only f l i d (by simpa using hi) (fun j hj hne=>by
   have:=h (j+1) (by simp;exact hj) vB
   rw[List.getD_cons_succ] at this;exact this)
  rw[List.flatMap_cons,this,List.getD_cons_succ]
  rw[List.getD_cons_zero] at h0
  rw[h0];rfl
theorem tick_idle {n:Node} (h:n.cpu.busy=false) (d:Drw):n.tick c d=(n,out0):=by
 unfold Node.tick Proc.tick
 rw[h]
 rfl
theorem step_tck (hc:Small c) (hW:WOk c w) (hmu:mu c i w≤400) (hI:Inv c i op v cnt w) (hw:w.way=[]) (hb:(uB w i).cpu.busy=true) (d:Drw) :
  ∃ w' ds,w.step c ⟨4,0,d.x,d.y,d.z⟩=(w',1,ds)/\Res c i op v cnt w w' ds:=by
 obtain⟨-,-,-,-,-,-,-,-,-,-,-,-,hn1,hn2,hb1,hb2,ht1,ht2⟩:=check_ok hc.ok
 have hlen:=hW.t.len
 have hiN:=hI.base.iN
 have hcap:=hc.cap
 have hleg:Ent.legal c ⟨4,0,d.x,d.y,d.z⟩=true:=rfl
 have hg:∀ j (hj:j < w.nodes.length),uB w j=w.nodes[j]:=fun j hj=>by
  unfold uB;rw[cB,dB hj];rfl
 have hnodes:(w.nodes.map fun(n:Node)=>n.tick c ⟨d.x,d.y,d.z⟩).map (·.1)=w.nodes.set i ((uB w i).tick c d).1:=by
  rw[List.map_map]
  refine List.ext_getElem zB (fun j h1 h2=>?_)
  have hj:j < w.nodes.length:=by simpa using h1
  rw[List.getElem_map,List.getElem_set]
  split
  ·rename_i e;subst e;rw[hg _ hj];rfl
  ·rename_i e
   have:=hI.base.idle j vB (fun z=>e z.symm)
   rw[hg _ hj] at this
   show(w.nodes[j].tick c _).1=_
   rw[tick_idle this]
 have hfl:∀ {β:Type} (f:Out->List β),f out0=[]->(w.nodes.map fun(n:Node)=>n.tick c ⟨d.x,d.y,d.z⟩).flatMap (fun r=>f r.2)=f ((uB w i).tick c d).2:=fun f hf=>by
  rw[List.flatMap_map,flat_only (fun n:Node=>f (n.tick c ⟨d.x,d.y,d.z⟩).2) w.nodes i (Node.new i) vB (fun j hj hne=>?_)]
  ·rfl
  ·have:=hI.base.idle j vB hne
   rw[hg _ hj] at this
   have e:w.nodes.getD j (Node.new i)=w.nodes[j]:=by rw[cB,dB hj];rfl
   show f ((w.nodes.getD j (Node.new i)).tick c _).2=[]
   rw[e,tick_idle this];exact hf
 have hA:World.acts c { w with steps:=wrap64 (w.steps+1)} ⟨4,0,d.x,d.y,d.z⟩=(true,{ ({ w with steps:=wrap64 (w.steps+1)}:World) with ticks:=wrap64 (w.ticks+1),nodes:=w.nodes.set i ((uB w i).tick c d).1 },((uB w i).tick c d).2.letters,((uB w i).tick c d).2.done):=by
  unfold World.acts
  simp only
  rw[if_neg yB,if_neg yB,if_neg yB]
  rw[hnodes,hfl (·.letters) rfl,hfl (·.done) rfl]
 unfold World.step
 simp only
 rw[hleg,hA]
 simp only[Bool.not_true,vA,if_false]
 have hT:Tck c i w d { ({ w with steps:=wrap64 (w.steps+1)}:World) with ticks:=wrap64 (w.ticks+1),nodes:=w.nodes.set i ((uB w i).tick c d).1,way:=w.way ++ ((uB w i).tick c d).2.letters } ((uB w i).tick c d).2.done :=
  ⟨hw,rfl,rfl,by show w.way ++ _=_;rw[hw];rfl,rfl⟩
 have hR:=tck_any hc hW hI hb hT
 have hm:=hR.mu
 have h2:=wsum_len c (w.way ++ ((uB w i).tick c d).2.letters)
 have h3:wsum c (w.way ++ ((uB w i).tick c d).2.letters)≤mu c i { ({ w with steps:=wrap64 (w.steps+1)}:World) with ticks:=wrap64 (w.ticks+1),nodes:=w.nodes.set i ((uB w i).tick c d).1,way:=w.way ++ ((uB w i).tick c d).2.letters }:=by
  unfold S.mu;exact Nat.le_add_right _ _
 rw[xA] at h2
 rw[if_neg vB]
 exact⟨_,_,rfl,hR.inv,hR.mu,hR.mon,by rw[strip_step];exact hR.don⟩
theorem step_iss (hc:Small c) (hW:WOk c w) (hQ:Q c v cnt w) (e:Ent) (hk:e.kind=1) (hleg:e.legal c=true) (hi:i=e.a.toNat) (hcn:0≤cnt i/\cnt i≤1000) :
  ∃ w' ds,w.step c e=(w',1,ds)/\Inv c i e.op v (fun j=>if j=i then cnt i+1 else cnt j) w'/\mu c i w'≤400/\ds.map strip=if (uB w' i).cpu.busy=true then [] else [doneOf i e.op v (cnt i+1)]:=by
 obtain⟨-,-,-,-,-,-,hwt1,-,htr0,-,-,-,hn1,hn2,hb1,hb2,ht1,ht2⟩:=check_ok hc.ok
 have hcap:=hc.cap
 have hlen:=hW.t.len
 have hleg':=hleg
 unfold Ent.legal at hleg'
 rw[if_pos hk] at hleg'
 simp only[Bool.and_eq_true,decide_eq_true_eq] at hleg'
 obtain⟨⟨⟨⟨l1,l2⟩,l3⟩,l4⟩,-⟩:=hleg'
 have hiN:i < c.nodes.toNat:=vB
 have hia:((i:Nat):Int)=e.a:=vB
 have hnd:w.node e.a=uB w i:=by
  rw[node_at e.a l1 vB,<- hi];rfl
 have hnd2:World.node { w with steps:=wrap64 (w.steps+1)} e.a=uB w i:=hnd
 have hid:(uB w i).id=(i:Nat):=hW.t.ids _ hiN
 generalize hop:e.op=op
 have hob:op.block=e.b:=by rw[<- hop];rfl
 have hb0:0≤op.block:=vB
 have hb1':op.block < c.blocks:=vB
 obtain⟨r1,r2,r3⟩:=hQ.rest op.block hb0 hb1'
 have hact:=rest_none hW.t hb0 hb1' r1 r2 hiN
 have hnn:=hW.node _ (nodeAt_mem hlen hiN)
 have hgood:=hQ.tok.node _ (nodeAt_mem hlen hiN)
 have hnum:=hQ.num i hiN
 have hwr:wrap64 ((uB w i).cpu.number+1)=cnt i+1:=by rw[hnum];exact wrap_id vB vB
 have hs0:=(seq_lo hW hb0 hb1').1
 have hpi:(uB w i).cpu.issue c op=(⟨max c.wait 1,0,false,cnt i+1,op,true⟩,true):=by
  unfold Proc.issue
  rw[hQ.idle i hiN,hwr];rfl
 have key:∀ (n':Node) (ls:List Let) (ds:List Done),(uB w i).issue c op ⟨0,0,0⟩=(n',⟨ls,ds⟩,true)->n'.know=(uB w i).know->n'.told=(uB w i).told->n'.asked=(uB w i).asked->n'.cpu.number=cnt i+1 ->
   (n'.cpu.busy=true->n'.cpu=⟨max c.wait 1,0,false,cnt i+1,op,true⟩/\(doOp op (n'.lines.tok op.block) c.tokens).2.2=false)->(∀ y∈ls,Shp c i op y/\y.seq=0/\y.kind=2)->wsum c ls≤15 ->
   (∀ x,Good c.tokens (regB op v n'.cpu.busy x) (n'.lines.tok x))->(∀ x,cn (n'.lines.tok x)=cn ((uB w i).lines.tok x)/\ow (n'.lines.tok x)=ow ((uB w i).lines.tok x))->(∀ x,regB op v n'.cpu.busy x≠v x->0≤x/\x < c.blocks/\(n'.lines.tok x).count=c.tokens) ->
   (ds.map strip=if n'.cpu.busy=true then [] else [doneOf i op v (cnt i+1)]) ->
   ∃ w' ds,w.step c e=(w',1,ds)/\Inv c i op v (fun j=>if j=i then cnt i+1 else cnt j) w'/\mu c i w'≤400/\ds.map strip=if (uB w' i).cpu.busy=true then [] else [doneOf i op v (cnt i+1)]:=by
  intro n' ls ds hiss k1 k2 k3 k4 k5 k6 k7 k8 k9 k10 k11
  have hA:World.acts c { w with steps:=wrap64 (w.steps+1)} e=(true,{ ({ w with steps:=wrap64 (w.steps+1)}:World) with nodes:=w.nodes.set i n' },ls,ds):=by
   unfold World.acts
   rw[if_pos hk,hnd2,hop,hiss,<- hi]
  have hls:ls.length≤15:=lB (wsum_len c ls) k7
  unfold World.step
  simp only
  rw[hleg,hA]
  simp only[Bool.not_true,vA,if_false]
  rw[if_neg (by rw[hQ.way];simp;omega)]
  refine⟨_,_,rfl,?_⟩
  generalize hw':({ ({ w with steps:=wrap64 (w.steps+1)}:World) with nodes:=w.nodes.set i n',way:=w.way ++ ls }:World)=w'
  have e1:w'.nodes=w.nodes.set i n':=by rw[<- hw']
  have e2:w'.home=w.home:=by rw[<- hw']
  have e3:w'.way=[] ++ ls:=by rw[<- hw',hQ.way]
  have hnod:=nodeAt_set hlen e1 hiN
  have hni:=hnod i
  rw[if_pos rfl] at hni
  have hR:=fun x=>R_same e2 x
  refine⟨⟨⟨hiN,hb0,hb1',by rw[e2];exact hQ.mem,fun x h0 h1 _=>by rw[hR];exact hQ.rest x h0 h1,by rw[hR];exact r3,fun k hk2 hki=>by rw[hnod,if_neg hki];exact hQ.idle k hk2,fun k hk2 x h0 h1=>?_,fun k hk2 x h0 h1=>?_,fun k hk2 x _=>?_,fun hbz=>?_,fun y hy=>?_⟩,.inl ⟨by rw[hR];exact r1,by rw[hR];exact r2,fun y hy=>?_,?_,fun hbz=>?_⟩,?_,fun k hk2=>?_⟩,?_,?_⟩
  ·rw[hnod,hR];split
   ·rw[k1];exact hQ.over i hiN x h0 h1
   ·exact hQ.over k hk2 x h0 h1
  ·rw[hnod,hR];split
   ·rw[k2];exact hQ.told i hiN x h0 h1
   ·exact hQ.told k hk2 x h0 h1
  ·rw[hnod];split
   ·rw[k3];exact hQ.askd i hiN x
   ·exact hQ.askd k hk2 x
  ·rw[hni] at hbz ⊢
   obtain⟨q1,q2⟩:=k5 hbz
   rw[q1]
   have:=hc.w
   exact⟨rfl,q2,Int.le_refl _,htr0,by show max c.wait 1≤24;omega⟩
  ·rw[e3] at hy
   have:=k6 y (by simpa using hy)
   exact⟨this.1,by rw[this.2.1,hR];exact hs0⟩
  ·rw[e3] at hy
   have:=(k6 y (by simpa using hy)).2.2
   omega
  ·rw[hni,k3];exact hQ.askd i hiN _
  ·rw[hni] at hbz ⊢
   rw[(k5 hbz).1]
  ·rw[hni]
   have hk6:∀ y∈ls,y.kind≠1:=fun y hy=>by have:=(k6 y hy).2.2;omega
   refine hQ.tok.node_move (ins:=[]) (rest:=[]) hQ.way vB e1 e2 e3 k8 (fun y hy hk2=>absurd hk2 (hk6 y hy)) (fun x h0 h1=>?_) (fun x h0 h1=>?_) k10
   ·rw[lsum_no _ _ _ hk6,lsum_nil,(k9 x).1];rfl
   ·rw[lsum_no _ _ _ hk6,lsum_nil,(k9 x).2];rfl
  ·rw[hnod]
   by_cases q:k=i
   ·rw[if_pos q,if_pos q];exact k4
   ·rw[if_neg q,if_neg q];exact hQ.num k hk2
  ·unfold S.mu
   rw[hni,e3,List.nil_append]
   have hp:pot c n'.cpu≤10+(24+60 * 3+61):=by
    by_cases hbz:n'.cpu.busy=true
    ·rw[(k5 hbz).1]
     unfold pot
     simp only[if_true,vA,if_false]
     have:=hc.w
     have:=hc.t
     omega
    ·unfold pot;rw[if_neg hbz];omega
   omega
  ·rw[hni,strip_step];exact k11
 have hset:=settle_cases (c:=c) (n:={ uB w i with cpu:=⟨max c.wait 1,0,false,cnt i+1,op,true⟩}) hnn.cac out0
 have hiss:∀ r,Node.settle c { uB w i with cpu:=⟨max c.wait 1,0,false,cnt i+1,op,true⟩} out0=r->(uB w i).issue c op ⟨0,0,0⟩=(r.1,if r.1.cpu.busy then r.1.ask c op ⟨0,0,0⟩ r.2 else r.2,true):=fun r hr=>by
  unfold Node.issue
  rw[if_neg vB]
  simp only[hpi,Bool.not_true,vA,if_false,hr]
 rcases hset with ⟨z1,z2⟩ | ⟨-,z2,s2,z3,z4,z5⟩
 ·have z1':(doOp op ((uB w i).lines.tok op.block) c.tokens).2.2=false:=z1.resolve_left (fun z=>by cases z)
  have h:=hiss _ z2
  obtain⟨a1,a2⟩:=askL_ok (op:=op) (d:=⟨0,0,0⟩) hc (i:=i) vB
  refine key { uB w i with cpu:=⟨max c.wait 1,0,false,cnt i+1,op,true⟩} (askL c i op ⟨0,0,0⟩) [] ?_ rfl rfl rfl rfl (fun _=>⟨rfl,z1'⟩) a1 a2 hgood (fun x=>⟨rfl,rfl⟩) (fun x hx=>absurd rfl hx) rfl
  rw[h]
  simp only[if_true]
  unfold Node.ask askL
  simp only[hid]
  rfl
 ·have z2':(doOp op ((uB w i).lines.tok op.block) c.tokens).2.2=true:=z2
  have hend:=end_none (c:=c) (n:={ uB w i with lines:=s2,cpu:={ (⟨max c.wait 1,0,false,cnt i+1,op,true⟩:Proc) with op:=op0,busy:=false }}) op.block { out0 with done:=out0.done ++ [⟨(uB w i).id,cnt i+1,op,(doOp op ((uB w i).lines.tok op.block) c.tokens).2.1,0⟩]} (by unfold Node.own;simp only[hact])
  have h:=hiss _ (z5.trans hend)
  obtain⟨d1,d2,d3,d4,d5⟩:=do_good (hgood op.block) z2' vB
  have z4':s2.tok=upd (uB w i).lines.tok op.block (doOp op ((uB w i).lines.tok op.block) c.tokens).1:=z4
  refine key _ [] [⟨(uB w i).id,cnt i+1,op,(doOp op ((uB w i).lines.tok op.block) c.tokens).2.1,0⟩] h rfl rfl rfl rfl (fun hz=>by cases hz) (fun y hy=>by cases hy) (Nat.zero_le _) (fun x=>?_) (fun x=>?_) (fun x hx=>?_) ?_
  ·show Good c.tokens (reg op v x) (s2.tok x)
   rw[z4']
   by_cases q:x=op.block
   ·rw[q,reg_at];simp only[upd,if_true];exact d2
   ·rw[reg_ne op v q];simp only[upd,if_neg q];exact hgood x
  ·show cn (s2.tok x)=_/\ow (s2.tok x)=_
   rw[z4']
   by_cases q:x=op.block
   ·rw[q];simp only[upd,if_true];exact⟨d4,d5⟩
   ·simp only[upd,if_neg q];exact⟨trivial,trivial⟩
  ·have hx':reg op v x≠v x:=hx
   by_cases q:x=op.block
   ·rw[q] at hx' ⊢
    have hwr:op.write=true:=by
     rw[reg_at] at hx'
     cases hwr:op.write
     ·rw[hwr] at hx';simp at hx'
     ·rfl
    refine⟨hb0,hb1',?_⟩
    show(s2.tok op.block).count=_
    rw[z4'];simp only[upd,if_true]
    show cn (doOp op ((uB w i).lines.tok op.block) c.tokens).1=_
    rw[d4];exact d3 hwr
   ·exact absurd (reg_ne op v q) hx'
  ·show[strip _]=[_]
   rw[d1,hid];rfl
end
end Go.Proofs.YtiebppkhaiofeaaGreat.S
