/- Part of the proof of TopPolicies: what functions of the program do. -/
import Derived.Test.YtiebppkhaiofeaaGreatP15
import Derived.Test.YtiebppkhaiofeaaGreatP00
set_option maxHeartbeats 4000000
set_option maxRecDepth 100000
set_option linter.unusedVariables false
set_option linter.unusedSimpArgs false
open Option renaming some→M, none→U
open List renaming getD_eq_getElem?_getD→cB, getElem?_eq_getElem→dB, mem_cons_of_mem→kB, replicate→uA, mem_cons_self→wA
open Nat renaming le_refl→pA
open Bool renaming false_eq_true→vA
namespace Go.Proofs.YtiebppkhaiofeaaGreat.S
open Go.RowKit (wrap64)
structure Small (c:Cfg):Prop where
 ok:c.check=0
 n:c.nodes≤4
 w:c.wait≤3
 t:c.tries≤3
 cap:20000≤c.cap
def nodeAt (w:World) (j:Nat):Node:=w.nodes.getD j (Node.new j)
def R (w:World) (x:Int):ARow:=w.home.queue.row x
inductive Shp (c:Cfg) (i:Nat) (op:Op):Let->Prop
 | tok (s:Int) (t:Bun):0≤s->s≤c.nodes->s≠i->Shp c i op (tokensL s i op.block t)
 | out (x:Int) (t:Bun):x≠op.block->Shp c i op (tokensL i c.nodes x t)
 | ask (t:Int):0≤t->t≤c.nodes->t≠i->Shp c i op ⟨2,i,t,op.block,0,0,op.write,b0⟩
 | per:Shp c i op ⟨3,i,c.nodes,op.block,0,0,false,b0⟩
 | act (j:Nat) (q:Int):(j:Int) < c.nodes->1≤q->Shp c i op ⟨4,c.nodes,j,op.block,q,i,false,b0⟩
 | done (q:Int):1≤q->Shp c i op ⟨5,i,c.nodes,op.block,q,0,false,b0⟩
 | deact (j:Nat) (q:Int):(j:Int) < c.nodes->1≤q->Shp c i op ⟨6,c.nodes,j,op.block,q,0,false,b0⟩
 | ack (j:Nat) (q:Int):(j:Int) < c.nodes->1≤q->Shp c i op ⟨7,j,c.nodes,op.block,q,0,false,b0⟩
def wt (c:Cfg) (l:Let):Nat:=if l.kind=1 then (if l.dst=c.nodes then 1 else 2) else if l.kind=2 then 3 else if l.kind=3 then 60 else if l.kind=4 then 13 else if l.kind=5 then 10 else if l.kind=6 then 2 else 1
def wsum (c:Cfg) (ls:List Let):Nat:=(ls.map (wt c)).sum
def pot (c:Cfg) (p:Proc):Nat:=if p.busy then 10+(if p.over then 0 else p.left.toNat+60 * (c.tries - p.tried).toNat+61) else 0
theorem wsum_nil (c:Cfg):wsum c []=0:=rfl
theorem wsum_cons (c:Cfg) (l:Let) (ls:List Let):wsum c (l :: ls)=wt c l+wsum c ls:=by simp[wsum]
theorem wsum_app (c:Cfg) (a b:List Let):wsum c (a ++ b)=wsum c a+wsum c b:=by simp[wsum]
theorem wt_pos (c:Cfg) (l:Let):1≤wt c l:=by
 unfold wt;(repeat' split) <;> omega
theorem wsum_len (c:Cfg):∀ ls:List Let,ls.length≤wsum c ls
 | []=>pA _
 | l :: ls=>by have:=wsum_len c ls;have:=wt_pos c l;rw[wsum_cons,List.length_cons];omega
theorem wsum_all {c:Cfg} {k:Nat}:∀ ls:List Let,(∀ l∈ls,wt c l≤k)->wsum c ls≤k * ls.length
 | [],h=>Nat.zero_le _
 | l :: ls,h=>by
  have:=wsum_all ls (fun x hx=>h x (kB _ hx))
  have:=h l wA
  rw[wsum_cons,List.length_cons,Nat.mul_add];omega
section
variable {c:Cfg} {i:Nat} {op:Op}
theorem end_home (c:Cfg) (x:Bool):endOk c c.nodes true x=true:=by unfold endOk;simp
theorem end_node {c:Cfg} {j:Int} (x:Bool) (h0:0≤j) (h1:j < c.nodes):endOk c j x true=true:=by
 unfold endOk;rw[decide_eq_true (show j≥0 from h0),decide_eq_true h1];simp
theorem check_of {c:Cfg} {l:Let} (k1:1≤l.kind) (k2:l.kind≤7) (hb0:0≤l.block) (hb1:l.block < c.blocks) (hne:l.src≠l.dst) (hs:endOk c l.src (rowsK l.kind).fromHome (rowsK l.kind).fromNode=true) (hd:endOk c l.dst (rowsK l.kind).toHome (rowsK l.kind).toNode=true)
  (hf:formOk c l (rowsK l.kind)=true) (ht:(rowsK l.kind).tokens=false->l.bun=b0) (ht2:(rowsK l.kind).tokens=true->l.bun.check c.tokens=0/\0 < l.bun.count):l.check c=0:=by
 unfold Let.check
 rw[if_neg vB,if_neg vB,if_neg (by rw[hs,hd];simp[hne]),if_neg (by rw[hf];simp)]
 cases h:(rowsK l.kind).tokens
 ·rw[if_pos rfl,ht h];rfl
 ·have:=ht2 h
  rw[if_neg zB,this.1]
  rw[if_pos (.inr this.2)]
theorem shp_check (hc:Small c) (hi:i < c.nodes.toNat) (hb0:0≤op.block) (hb1:op.block < c.blocks) {l:Let} (h:Shp c i op l) (hk:l.kind≠1):l.check c=0:=by
 have h0:(0:Int)≤(i:Int):=vB
 have h1:(i:Int) < c.nodes:=vB
 cases h with
 | tok=>exact absurd rfl hk
 | out=>exact absurd rfl hk
 | ask t h2 h3 h4 =>
  refine check_of (by show(1:Int)≤2;decide) (by show(2:Int)≤7;decide) hb0 hb1 (fun e=>h4 e.symm) (end_node _ h0 h1) ?_ ?_ (fun _=>rfl) (fun h=>by cases h)
  ·show endOk c t true true=true
   by_cases e:t=c.nodes
   ·rw[e];exact end_home c _
   ·exact end_node _ h2 vB
  ·show(((false && _) || (!false && (0:Int) == 0)) && _ && (true || _))=true
   rfl
 | per =>
  refine check_of (by show(1:Int)≤3;decide) (by show(3:Int)≤7;decide) hb0 hb1 (show(i:Int)≠c.nodes by omega) (end_node _ h0 h1) (end_home c _) ?_ (fun _=>rfl) (fun h=>by cases h)
  rfl
 | act j q h2 h3 =>
  refine check_of (by show(1:Int)≤4;decide) (by show(4:Int)≤7;decide) hb0 hb1 (by show c.nodes≠(j:Int);omega) (end_home c _) (end_node _ (by show(0:Int)≤(j:Int);omega) h2) ?_ (fun _=>rfl) (fun h=>by cases h)
  show(((true && decide (q≥1)) || _) && ((true && endOk c i false true) || _) && _)=true
  rw[end_node _ h0 h1,decide_eq_true h3];rfl
 | done q h3 =>
  refine check_of (by show(1:Int)≤5;decide) (by show(5:Int)≤7;decide) hb0 hb1 (show(i:Int)≠c.nodes by omega) (end_node _ h0 h1) (end_home c _) ?_ (fun _=>rfl) (fun h=>by cases h)
  show(((true && decide (q≥1)) || _) && _ && _)=true
  rw[decide_eq_true h3];rfl
 | deact j q h2 h3 =>
  refine check_of (by show(1:Int)≤6;decide) (by show(6:Int)≤7;decide) hb0 hb1 (by show c.nodes≠(j:Int);omega) (end_home c _) (end_node _ (by show(0:Int)≤(j:Int);omega) h2) ?_ (fun _=>rfl) (fun h=>by cases h)
  show(((true && decide (q≥1)) || _) && _ && _)=true
  rw[decide_eq_true h3];rfl
 | ack j q h2 h3 =>
  refine check_of (by show(1:Int)≤7;decide) (by show(7:Int)≤7;decide) hb0 hb1 (by show(j:Int)≠c.nodes;omega) (end_node _ (by show(0:Int)≤(j:Int);omega) h2) (end_home c _) ?_ (fun _=>rfl) (fun h=>by cases h)
  show(((true && decide (q≥1)) || _) && _ && _)=true
  rw[decide_eq_true h3];rfl
theorem tok_check {s d x:Int} {t:Bun} {v:Int} (g:Good c.tokens v t) (ht:1≤t.count) (hx0:0≤x) (hx1:x < c.blocks) (hs0:0≤s) (hs1:s≤c.nodes) (hd0:0≤d) (hd1:d≤c.nodes) (hne:s≠d):(tokensL s d x t).check c=0:=by
 have he:∀ y:Int,0≤y->y≤c.nodes->endOk c y true true=true:=fun y h0 h1=>by
  by_cases e:y=c.nodes
  ·rw[e];exact end_home c _
  ·exact end_node _ h0 vB
 exact check_of (by show(1:Int)≤1;decide) (by show(1:Int)≤7;decide) hx0 hx1 hne (he s hs0 hs1) (he d hd0 hd1) rfl (fun h=>by cases h) (fun _=>⟨g.check,by show 0 < t.count;omega⟩)
end
section
variable {c:Cfg} {n:Node} {m:Int} {v:Int->Int}
theorem take_good (hn:CInv c n.lines) (hg:∀ x,Good c.tokens (v x) (n.lines.tok x)) (hT:c.tokens≤65536) (b k:Int) (o d:Bool) :
  (n.lines.take c b k o d).1.tok=upd n.lines.tok b (split (n.lines.tok b) k o d).2/\(n.lines.take c b k o d).2=(split (n.lines.tok b) k o d).1:=by
 obtain⟨-,e2,e3⟩:=take_eq hn b k o d
 refine⟨?_,e2⟩
 rw[e3]
 have g:=(split_good (hg b) hT k o d).2.1
 congr 1
 split
 ·rfl
 ·exact(g.none vB).symm
def sendT (s d x:Int) (t:Bun):List Let:=if t.count > 0 then [tokensL s d x t] else []
theorem sendT_sum {T v s d x:Int} {t:Bun} (g:Good T v t) (y:Int):lsum cn y (sendT s d x t)=(if x=y then cn t else 0)/\lsum ow y (sendT s d x t)=(if x=y then ow t else 0):=by
 unfold sendT
 split
 ·rw[lsum_cons,lsum_nil,lsum_cons,lsum_nil]
  show(if (1:Int)=1/\x=y then cn t else 0)+0=_/\(if (1:Int)=1/\x=y then ow t else 0)+0=_
  simp
 ·rw[g.none vB]
  have e1:cn b0=0:=rfl
  have e2:ow b0=0:=rfl
  rw[lsum_nil,lsum_nil,e1,e2];simp
theorem sendT_mem {s d x:Int} {t:Bun} {l:Let} (h:l∈sendT s d x t):l=tokensL s d x t:=by
 unfold sendT at h
 split at h
 ·exact List.mem_singleton.1 h
 ·cases h
theorem sendT_wt (c:Cfg) (s d x:Int) (t:Bun):wsum c (sendT s d x t)≤2:=by
 unfold sendT
 split
 ·rw[wsum_cons,wsum_nil]
  show(if (1:Int)=1 then (if d=c.nodes then 1 else 2) else _)+0≤2
  rw[if_pos rfl];split <;> omega
 ·exact Nat.zero_le _
theorem asks_eq (hb:n.cpu.busy=false) {l:Let} (hl:0≤l.block) (d:Drw) (hck:l.check c=0) (hd:l.dst=n.id) (hk:l.kind=2) :
  n.take c l d=({ n with lines:=(n.lines.take c l.block (reply c.policy (n.lines.get l.block) l.write d).1 (reply c.policy (n.lines.get l.block) l.write d).2.1 (reply c.policy (n.lines.get l.block) l.write d).2.2).1 },{ out0 with letters:=sendT n.id l.src l.block (n.lines.take c l.block (reply c.policy (n.lines.get l.block) l.write d).1 (reply c.policy (n.lines.get l.block) l.write d).2.1 (reply c.policy (n.lines.get l.block) l.write d).2.2).2 }):=by
 unfold Node.take
 rw[if_neg (by rw[hck,hd];simp),if_neg vB,if_pos hk]
 unfold Node.asks
 have hp:n.cpu.pinned = -1:=by unfold Proc.pinned;rw[hb];rfl
 rw[if_neg (by rw[hp];rintro⟨-,q⟩;omega)]
 unfold sendT
 simp only
 split <;> rfl
theorem activate_eq {l:Let} (d:Drw) (hck:l.check c=0) (hd:l.dst=n.id) (hk:l.kind=4):n.take c l d=n.activate c l out0:=by
 unfold Node.take
 rw[if_neg (by rw[hck,hd];simp),if_neg vB,if_neg vB,if_pos hk]
theorem deact_eq {l:Let} (d:Drw) (hck:l.check c=0) (hd:l.dst=n.id) (hk:l.kind=6):n.take c l d=({ n with know:=n.know.deactivate l.block l.seq },out0.send (n.home c 7 l.block l.seq)):=by
 unfold Node.take
 rw[if_neg (by rw[hck,hd];simp),if_neg vB,if_neg vB,if_neg vB,if_pos hk]
 rfl
theorem activate_no {l:Let} {o:Out} (h:l.seq < 1∨l.seq≤n.know.over l.block∨l.seq≤n.know.seqOf l.block):n.activate c l o=(n,o):=by
 unfold Node.activate Table.activate
 rw[if_pos h];rfl
theorem activate_other {l:Let} (h:¬ (l.seq < 1∨l.seq≤n.know.over l.block∨l.seq≤n.know.seqOf l.block)) (hw:l.who≠n.id) :
  n.activate c l out0=({ n with know:={ n.know with act:=upd n.know.act l.block (M ⟨l.block,l.who,l.seq⟩)},lines:=(n.lines.take c l.block (n.lines.tok l.block).count true true).1 },{ out0 with letters:=sendT n.id l.who l.block (n.lines.take c l.block (n.lines.tok l.block).count true true).2 }):=by
 unfold Node.activate Table.activate
 rw[if_neg h]
 simp only[Bool.not_true,vA,if_false]
 rw[if_neg hw]
 unfold sendT Cache.get
 split <;> rfl
theorem activate_own {l:Let} {o:Out} (h:¬ (l.seq < 1∨l.seq≤n.know.over l.block∨l.seq≤n.know.seqOf l.block)) (hw:l.who=n.id) :
  n.activate c l o=if n.cpu.pinned≠l.block then ({ n with know:={ n.know with act:=upd n.know.act l.block (M ⟨l.block,l.who,l.seq⟩)}}:Node).end_ c l.block o else ({ n with know:={ n.know with act:=upd n.know.act l.block (M ⟨l.block,l.who,l.seq⟩)}},o):=by
 unfold Node.activate Table.activate
 rw[if_neg h]
 simp only[Bool.not_true,vA,if_false]
 rw[if_pos hw]
theorem settle_cases (hn:CInv c n.lines) (o:Out) :
  ((n.cpu.busy=false∨(doOp n.cpu.op (n.lines.tok n.cpu.op.block) c.tokens).2.2=false)/\n.settle c o=(n,o)) ∨
  (n.cpu.busy=true/\(doOp n.cpu.op (n.lines.tok n.cpu.op.block) c.tokens).2.2=true/\∃ s,CInv c s/\s.tok=upd n.lines.tok n.cpu.op.block (doOp n.cpu.op (n.lines.tok n.cpu.op.block) c.tokens).1 /\
   n.settle c o=({ n with lines:=s,cpu:={ n.cpu with op:=op0,busy:=false }}:Node).end_ c n.cpu.op.block { o with done:=o.done ++ [⟨n.id,n.cpu.number,n.cpu.op,(doOp n.cpu.op (n.lines.tok n.cpu.op.block) c.tokens).2.1,0⟩]}):=by
 obtain⟨e1,e2,e3⟩:=doIt_eq hn n.cpu.op
 unfold Node.settle
 cases hb:n.cpu.busy
 ·exact .inl ⟨.inl rfl,zB⟩
 ·simp only[Bool.not_true,vA,if_false]
  rw[e2]
  cases hr:(doOp n.cpu.op (n.lines.tok n.cpu.op.block) c.tokens).2.2
  ·exact .inl ⟨.inr rfl,zB⟩
  ·refine .inr ⟨trivial,rfl,_,e1,?_,?_⟩
   ·rw[e3,hr];rfl
   ·simp only[Bool.not_true,vA,if_false]
    unfold Proc.finish
    rw[hb]
    rfl
theorem end_none (b:Int) (o:Out) (h:n.own b=U):n.end_ c b o=(n,o):=by unfold Node.end_;rw[h]
theorem end_some {b:Int} {a:Act} (o:Out) (h:n.own b=M a) (hs:n.told b < a.seq):n.end_ c b o=({ n with told:=upd n.told b a.seq,asked:=upd n.asked b false },o.send (n.home c 5 b a.seq)):=by
 unfold Node.end_;rw[h];simp only;rw[if_neg vB]
theorem absorb_mine {s:Cache} (hn:CInv c s) (hw:1≤c.ways) {b:Int} (hb:0≤b) {t:Bun} (hg:Good c.tokens (v b) t) (hT:c.tokens≤65536) (ht:1≤t.count) {p:Int} (hp:p=b∨p < 0) :
  CInv c (s.absorb c b t p).1/\(s.absorb c b t p).1.tok b=join (s.tok b) t /\
  (((s.absorb c b t p).2=U/\∀ x,x≠b->(s.absorb c b t p).1.tok x=s.tok x) ∨
  ∃ x,x≠b/\(s.absorb c b t p).2=M ⟨x,s.tok x⟩/\(s.absorb c b t p).1.tok x=b0/\∀ y,y≠b->y≠x->(s.absorb c b t p).1.tok y=s.tok y):=by
 obtain⟨h1,h2⟩:=absorb_eq hn hb ht p
 refine⟨h1,?_⟩
 have hj:b∉s.row c b->join (s.tok b) t=t:=fun h=>by rw[hn.none h];exact join_b0 hg hT
 rcases h2 with ⟨q1,q2,q3⟩ | ⟨q1,q2,q3⟩ | ⟨x,q1,q2,q3,q4,q5,q6,q7⟩ | ⟨q1,q2,q3,q4⟩
 ·rw[q1];exact⟨by simp[upd],.inl ⟨q2,fun x hx=>by simp[upd,hx]⟩⟩
 ·rw[q1,hj q3];exact⟨by simp[upd],.inl ⟨q2,fun x hx=>by simp[upd,hx]⟩⟩
 ·rw[q6,hj q5];exact⟨by simp[upd],.inr ⟨x,q2,q7,by simp[upd,q2],fun y h1 h2=>by simp[upd,h1,h2]⟩⟩
 ·exfalso
  cases hr:s.row c b with
  | cons y ys =>
   have hy:y∈s.row c b:=by rw[hr];exact wA
   have e:=q4 y hy
   have h0:=(hn.own _ y hy).1
   rcases hp with hp | hp
   ·rw[hp] at e;rw[e] at hy;exact q3 hy
   ·omega
  | nil =>
   have hbf:s.has c b=false:=(has_false b).2 q3
   have hl:((s.row c b).length:Int) < c.ways:=by rw[hr];show(0:Int) < _;omega
   have hv:s.victim c b p=(-1,true):=by
    unfold Cache.victim
    rw[if_neg vB,if_pos (.inr hl)]
   have hm1:s.has c (-1)=false:=(has_false _).2 (fun q=>by have:=(hn.own _ _ q).1;omega)
   unfold Cache.absorb at q2
   rw[if_neg vB,use_no q3] at q2
   simp only[vA,if_false,hv,hm1,Bool.not_true] at q2
   cases q2
def evict (c:Cfg) (id:Int):Option Line->Out
 | some g=>out0.send (tokensL id c.nodes g.block g.bun)
 | none=>out0
theorem tokens_eq {l:Let} (d:Drw) (hck:l.check c=0) (hd:l.dst=n.id) (hk:l.kind=1) (ho:n.other l.block=U) :
  n.take c l d=({ n with lines:=(n.lines.absorb c l.block l.bun n.cpu.pinned).1 }:Node).settle c (evict c n.id (n.lines.absorb c l.block l.bun n.cpu.pinned).2):=by
 unfold Node.take
 rw[if_neg (by rw[hck,hd];simp),if_pos hk]
 unfold Node.tokens
 rw[ho]
 simp only
 cases (n.lines.absorb c l.block l.bun n.cpu.pinned).2 <;> rfl
end
structure Base (c:Cfg) (i:Nat) (op:Op) (w:World):Prop where
 iN:i < c.nodes.toNat
 b0:0≤op.block
 b1:op.block < c.blocks
 mem:w.home.mem.length=c.blocks.toNat
 rest:∀ x,0≤x->x < c.blocks->x≠op.block->(R w x).on=false/\(R w x).ending=false/\(R w x).queue=[]
 que:(R w op.block).queue=[]
 idle:∀ j,j < c.nodes.toNat->j≠i->(nodeAt w j).cpu.busy=false
 over:∀ j,j < c.nodes.toNat->∀ x,0≤x->x < c.blocks->(nodeAt w j).know.over x≤(R w x).seq
 told:∀ j,j < c.nodes.toNat->∀ x,0≤x->x < c.blocks->(nodeAt w j).told x≤(R w x).seq
 askd:∀ j,j < c.nodes.toNat->∀ x,(j≠i∨x≠op.block)->(nodeAt w j).asked x=false
 busy:(nodeAt w i).cpu.busy=true->(nodeAt w i).cpu.op=op/\(doOp op ((nodeAt w i).lines.tok op.block) c.tokens).2.2=false/\0≤(nodeAt w i).cpu.tried/\(nodeAt w i).cpu.tried≤c.tries/\(nodeAt w i).cpu.left≤24
 shp:∀ l∈w.way,Shp c i op l/\l.seq≤(R w op.block).seq
structure PhA (c:Cfg) (i:Nat) (op:Op) (w:World):Prop where
 on:(R w op.block).on=false
 en:(R w op.block).ending=false
 kin:∀ l∈w.way,l.kind≠3
 askd:(nodeAt w i).asked op.block=false
 tim:(nodeAt w i).cpu.busy=true->(nodeAt w i).cpu.over=false
structure PhB (c:Cfg) (i:Nat) (op:Op) (w:World):Prop where
 on:(R w op.block).on=false
 en:(R w op.block).ending=false
 way:w.way=[⟨3,i,c.nodes,op.block,0,0,false,S.b0⟩]
 busy:(nodeAt w i).cpu.busy=true
structure PhC (c:Cfg) (i:Nat) (op:Op) (w:World):Prop where
 on:(R w op.block).on=true
 en:(R w op.block).ending=false
 act:(R w op.block).active=⟨op.block,i,(R w op.block).seq⟩
 kin:∀ l∈w.way,l.kind≠2/\l.kind≠3/\l.kind≠6/\l.kind≠7
 ovr:∀ j,j < c.nodes.toNat->(nodeAt w j).know.over op.block < (R w op.block).seq
 home:w.home.get op.block=S.b0
 know:∀ j,j < c.nodes.toNat->(nodeAt w j).know.act op.block=M (R w op.block).active∨(⟨4,c.nodes,j,op.block,(R w op.block).seq,i,false,S.b0⟩:Let)∈w.way
 tok:∀ j,j < c.nodes.toNat->j≠i->(nodeAt w j).know.act op.block≠U->(nodeAt w j).lines.tok op.block=S.b0
 st:((∀ l∈w.way,l.kind≠5)/\(nodeAt w i).told op.block < (R w op.block).seq/\((nodeAt w i).cpu.busy=true∨((⟨4,c.nodes,i,op.block,(R w op.block).seq,i,false,S.b0⟩:Let)∈w.way/\(nodeAt w i).know.act op.block=U))) ∨
  ((nodeAt w i).cpu.busy=false/\(nodeAt w i).asked op.block=false/\(⟨5,i,c.nodes,op.block,(R w op.block).seq,0,false,S.b0⟩:Let)∈w.way)
structure PhD (c:Cfg) (i:Nat) (op:Op) (w:World):Prop where
 on:(R w op.block).on=false
 en:(R w op.block).ending=true
 act:(R w op.block).active.node=i
 kin:∀ l∈w.way,l.kind≠2/\l.kind≠3
 busy:(nodeAt w i).cpu.busy=false
 askd:(nodeAt w i).asked op.block=false
 len:(R w op.block).knows.length=64
 hi:∀ j,c.nodes.toNat≤j->(R w op.block).knows.getD j false=false
 ne:(R w op.block).knows≠(List.range 64).map (fun(k:Nat)=>decide ((k:Int) < c.nodes))
 all:∀ j,j < c.nodes.toNat->(R w op.block).knows.getD j false=true∨(⟨6,c.nodes,j,op.block,(R w op.block).seq,0,false,S.b0⟩:Let)∈w.way∨(⟨7,j,c.nodes,op.block,(R w op.block).seq,0,false,S.b0⟩:Let)∈w.way
def Ph (c:Cfg) (i:Nat) (op:Op) (w:World):Prop:=PhA c i op w∨PhB c i op w∨PhC c i op w∨PhD c i op w
def reg (op:Op) (v:Int->Int):Int->Int:=if op.write then upd v op.block op.value else v
def regB (op:Op) (v:Int->Int) (busy:Bool):Int->Int:=if busy then v else reg op v
def mu (c:Cfg) (i:Nat) (w:World):Nat:=wsum c w.way+pot c (nodeAt w i).cpu
structure Inv (c:Cfg) (i:Nat) (op:Op) (v:Int->Int) (cnt:Nat->Int) (w:World):Prop where
 base:Base c i op w
 ph:Ph c i op w
 tok:Tok c (regB op v (nodeAt w i).cpu.busy) w
 num:∀ j,j < c.nodes.toNat->(nodeAt w j).cpu.number=cnt j
def strip (d:Done):Done:={ d with step:=0 }
def doneOf (i:Nat) (op:Op) (v:Int->Int) (k:Int):Done:=⟨i,k,op,if op.write then op.value else v op.block,0⟩
structure Res (c:Cfg) (i:Nat) (op:Op) (v:Int->Int) (cnt:Nat->Int) (w w':World) (ds:List Done):Prop where
 inv:Inv c i op v cnt w'
 mu:mu c i w' < mu c i w
 mon:(nodeAt w' i).cpu.busy=true->(nodeAt w i).cpu.busy=true
 don:ds.map strip=if (nodeAt w i).cpu.busy=true/\(nodeAt w' i).cpu.busy=false then [doneOf i op v (cnt i)] else []
section
variable {c:Cfg} {i:Nat} {op:Op} {v:Int->Int} {cnt:Nat->Int} {w w':World} {l:Let} {rest ls:List Let} {j:Nat} {n':Node}
theorem nodeAt_set (hl:w.nodes.length=c.nodes.toNat) (e1:w'.nodes=w.nodes.set j n') (hj:j < c.nodes.toNat) (k:Nat):nodeAt w' k=if k=j then n' else nodeAt w k:=by
 unfold nodeAt
 rw[e1,getD_set]
 by_cases e:k=j
 ·rw[if_pos e,if_pos ⟨e.symm,vB⟩]
 ·rw[if_neg e,if_neg (fun q=>e q.1.symm)]
theorem nodeAt_same (e1:w'.nodes=w.nodes) (k:Nat):nodeAt w' k=nodeAt w k:=by unfold nodeAt;rw[e1]
theorem R_same (e2:w'.home=w.home) (x:Int):R w' x=R w x:=by unfold R;rw[e2]
theorem nodeAt_mem (hl:w.nodes.length=c.nodes.toNat) (hj:j < c.nodes.toNat):nodeAt w j∈w.nodes:=by
 unfold nodeAt
 rw[cB,dB vB]
 exact List.getElem_mem _
theorem Base.set0 (h:Base c i op w) (hl:w.nodes.length=c.nodes.toNat) (hw:∀ x∈rest,x∈w.way) (hj:j < c.nodes.toNat) (e1:w'.nodes=w.nodes.set j n') (e2:w'.home=w.home) (e3:w'.way=rest ++ ls)
  (f1:j≠i->n'.cpu.busy=false) (f2:∀ x,0≤x->x < c.blocks->n'.know.over x≤(R w x).seq) (f3:∀ x,0≤x->x < c.blocks->n'.told x≤(R w x).seq) (f4:∀ x,(j≠i∨x≠op.block)->n'.asked x=false)
  (f5:j=i->n'.cpu.busy=true->n'.cpu.op=op/\(doOp op (n'.lines.tok op.block) c.tokens).2.2=false/\0≤n'.cpu.tried/\n'.cpu.tried≤c.tries/\n'.cpu.left≤24)
  (f6:∀ x∈ls,Shp c i op x/\x.seq≤(R w op.block).seq):Base c i op w':=by
 have hn:=nodeAt_set hl e1 hj
 refine⟨h.iN,h.b0,h.b1,by rw[e2];exact h.mem,fun x h0 h1 hx=>by rw[R_same e2];exact h.rest x h0 h1 hx,by rw[R_same e2];exact h.que,fun k hk hki=>?_,fun k hk x h0 h1=>?_,fun k hk x h0 h1=>?_,fun k hk x hx=>?_,fun hb=>?_,fun x hx=>?_⟩
 ·rw[hn];split
  ·rename_i e;exact f1 (e ▸ hki)
  ·exact h.idle k hk hki
 ·rw[hn,R_same e2];split
  ·exact f2 x h0 h1
  ·exact h.over k hk x h0 h1
 ·rw[hn,R_same e2];split
  ·exact f3 x h0 h1
  ·exact h.told k hk x h0 h1
 ·rw[hn];split
  ·rename_i e;exact f4 x (e ▸ hx)
  ·exact h.askd k hk x hx
 ·rw[hn] at hb ⊢
  by_cases e:i=j
  ·rw[if_pos e] at hb ⊢;exact f5 e.symm hb
  ·rw[if_neg e] at hb ⊢;exact h.busy hb
 ·rw[R_same e2]
  rw[e3] at hx
  rcases List.mem_append.1 hx with q | q
  ·exact h.shp x (hw x q)
  ·exact f6 x q
theorem Base.set (h:Base c i op w) (hl:w.nodes.length=c.nodes.toNat) (hw:w.way=l :: rest) (hj:j < c.nodes.toNat) (e1:w'.nodes=w.nodes.set j n') (e2:w'.home=w.home) (e3:w'.way=rest ++ ls)
  (f1:j≠i->n'.cpu.busy=false) (f2:∀ x,0≤x->x < c.blocks->n'.know.over x≤(R w x).seq) (f3:∀ x,0≤x->x < c.blocks->n'.told x≤(R w x).seq) (f4:∀ x,(j≠i∨x≠op.block)->n'.asked x=false)
  (f5:j=i->n'.cpu.busy=true->n'.cpu.op=op/\(doOp op (n'.lines.tok op.block) c.tokens).2.2=false/\0≤n'.cpu.tried/\n'.cpu.tried≤c.tries/\n'.cpu.left≤24)
  (f6:∀ x∈ls,Shp c i op x/\x.seq≤(R w op.block).seq):Base c i op w' :=
 h.set0 hl (fun x hx=>by rw[hw];exact kB _ hx) hj e1 e2 e3 f1 f2 f3 f4 f5 f6
theorem Base.homeTo (h:Base c i op w) (hw:w.way=l :: rest) (e1:w'.nodes=w.nodes) (e3:w'.way=rest ++ ls) (r0:w'.home.mem.length=w.home.mem.length)
  (r1:∀ x,0≤x->x < c.blocks->x≠op.block->R w' x=R w x) (r2:(R w' op.block).queue=[]) (r3:(R w op.block).seq≤(R w' op.block).seq) (f6:∀ x∈ls,Shp c i op x/\x.seq≤(R w' op.block).seq):Base c i op w':=by
 have hs:∀ x,0≤x->x < c.blocks->(R w x).seq≤(R w' x).seq:=fun x h0 h1=>by
  by_cases e:x=op.block
  ·rw[e];exact r3
  ·rw[r1 x h0 h1 e];exact Int.le_refl _
 refine⟨h.iN,h.b0,h.b1,by rw[r0];exact h.mem,fun x h0 h1 hx=>by rw[r1 x h0 h1 hx];exact h.rest x h0 h1 hx,r2,fun k hk hki=>?_,fun k hk x h0 h1=>?_,fun k hk x h0 h1=>?_,fun k hk x hx=>?_,fun hb=>?_,fun x hx=>?_⟩
 ·rw[nodeAt_same e1];exact h.idle k hk hki
 ·rw[nodeAt_same e1];exact Int.le_trans (h.over k hk x h0 h1) (hs x h0 h1)
 ·rw[nodeAt_same e1];exact Int.le_trans (h.told k hk x h0 h1) (hs x h0 h1)
 ·rw[nodeAt_same e1];exact h.askd k hk x hx
 ·rw[nodeAt_same e1] at hb ⊢;exact h.busy hb
 ·rw[e3] at hx
  rcases List.mem_append.1 hx with q | q
  ·have:=h.shp x (by rw[hw];exact kB _ q)
   exact⟨this.1,Int.le_trans this.2 r3⟩
  ·exact f6 x q
theorem PhA.keep (h:PhA c i op w) (hR:R w' op.block=R w op.block) (hk:∀ x∈w'.way,x∈w.way∨x.kind≠3) (ha:(nodeAt w' i).asked op.block=false) (ht:(nodeAt w' i).cpu.busy=true->(nodeAt w' i).cpu.over=false):PhA c i op w' :=
 ⟨by rw[hR];exact h.on,by rw[hR];exact h.en,fun x hx=>(hk x hx).elim (h.kin x) id,ha,ht⟩
theorem PhD.keep (h:PhD c i op w) (hR:R w' op.block=R w op.block) (hk:∀ x∈w'.way,x∈w.way∨(x.kind≠2/\x.kind≠3)) (hm:∀ x∈w.way,x.kind=6∨x.kind=7->x∈w'.way) (hb:(nodeAt w' i).cpu.busy=false) (ha:(nodeAt w' i).asked op.block=false):PhD c i op w' :=
 ⟨by rw[hR];exact h.on,by rw[hR];exact h.en,by rw[hR];exact h.act,fun x hx=>(hk x hx).elim (h.kin x) id,hb,ha,by rw[hR];exact h.len,by rw[hR];exact h.hi,by rw[hR];exact h.ne,fun k hk'=>by
  rw[hR]
  exact(h.all k hk').imp id (Or.imp (fun q=>hm _ q (.inl rfl)) (fun q=>hm _ q (.inr rfl)))⟩
theorem PhC.keep (h:PhC c i op w) (hR:R w' op.block=R w op.block) (hk:∀ x∈w'.way,x∈w.way∨x.kind=1) (hm:∀ x∈w.way,x.kind=4∨x.kind=5->x∈w'.way) (hh:w'.home.get op.block=S.b0)
  (hkn:∀ k,k < c.nodes.toNat->(nodeAt w' k).know=(nodeAt w k).know) (ht:∀ k,k < c.nodes.toNat->k≠i->(nodeAt w k).lines.tok op.block=S.b0->(nodeAt w' k).lines.tok op.block=S.b0)
  (hb:(nodeAt w' i).cpu.busy=(nodeAt w i).cpu.busy) (ha:(nodeAt w' i).asked op.block=(nodeAt w i).asked op.block) (ho:(nodeAt w' i).told op.block=(nodeAt w i).told op.block) (hi:i < c.nodes.toNat):PhC c i op w' :=
 ⟨by rw[hR];exact h.on,by rw[hR];exact h.en,by rw[hR];exact h.act,fun x hx=>(hk x hx).elim (h.kin x) (fun q=>by rw[q];exact⟨yB,yB,yB,yB⟩),fun k hk'=>by rw[hR,hkn k hk'];exact h.ovr k hk',hh,fun k hk'=>by
  rw[hR,hkn k hk']
  exact(h.know k hk').imp id (fun q=>hm _ q (.inl rfl)),fun k hk' hki hne=>ht k hk' hki (h.tok k hk' hki (by rw[<- hkn k hk'];exact hne)),by
  rw[hR,hb,ha,ho,hkn i hi]
  rcases h.st with ⟨h1,h2,h3⟩ | ⟨h1,h2,h3⟩
  ·refine .inl ⟨fun x hx q=>?_,h2,h3.imp id (fun q=>⟨hm _ q.1 (.inl rfl),q.2⟩)⟩
   rcases hk x hx with q2 | q2
   ·exact h1 x q2 q
   ·omega
  ·exact .inr ⟨h1,h2,hm _ h3 (.inr rfl)⟩⟩
theorem rest_none (hT:TInv c w) {x:Int} (h0:0≤x) (h1:x < c.blocks) (hon:(R w x).on=false) (hen:(R w x).ending=false) (hj:j < c.nodes.toNat):(nodeAt w j).know.act x=U:=by
 have hb:=hT.all.row h0 (by rw[hT.rl];omega)
 cases e:(nodeAt w j).know.act x with
 | none=>rfl
 | some a =>
  exfalso
  obtain⟨k1,k2,k3⟩:=hb.know j hj a e
  have k4:=hb.rest hon hen j hj
  have k5:=(hb.act k2).1
  rw[k1,k5] at k3
  omega
theorem know_act (hT:TInv c w) {x:Int} (h0:0≤x) (h1:x < c.blocks) (hj:j < c.nodes.toNat) {a:Act} (h:(nodeAt w j).know.act x=M a):a=(R w x).active/\a.seq=(R w x).seq:=by
 have hb:=hT.all.row h0 (by rw[hT.rl];omega)
 obtain⟨k1,k2,k3⟩:=hb.know j hj a h
 exact⟨k1,by rw[k1];exact(hb.act k2).1⟩
theorem seq_lo (hW:WOk c w) {x:Int} (h0:0≤x) (h1:x < c.blocks):0≤(R w x).seq/\(R w x).seq≤w.steps:=by
 have hb:=hW.t.all.row h0 (by rw[hW.t.rl];omega)
 exact⟨hb.lo,hb.hi⟩
theorem other_none (hT:TInv c w) (hB:Base c i op w) (hP:Ph c i op w):(nodeAt w i).other op.block=U:=by
 unfold Node.other
 have hid:=hT.ids i hB.iN
 have hid':(nodeAt w i).id=i:=hid
 cases e:(nodeAt w i).know.act op.block with
 | none=>rfl
 | some a =>
  have ha:=(know_act hT hB.b0 hB.b1 hB.iN e).1
  have hn:a.node=i:=by
   rcases hP with h | h | h | h
   ·rw[rest_none hT hB.b0 hB.b1 h.on h.en hB.iN] at e;cases e
   ·rw[rest_none hT hB.b0 hB.b1 h.on h.en hB.iN] at e;cases e
   ·rw[ha,h.act]
   ·rw[ha,h.act]
  simp only
  rw[if_pos (by rw[hn,hid'])]
theorem get_put {h:Home} {x:Int} (h0:0≤x) (h1:x < h.mem.length) (t:Bun) (y:Int):(h.put x t).get y=if y=x then join (h.get x) t else h.get y:=by
 have his:h.is x=true:=by unfold Home.is;simp;omega
 unfold Home.put
 rw[if_pos his]
 unfold Home.get Home.is
 simp only[List.length_set]
 by_cases e:y=x
 ·rw[if_pos e,e]
  unfold Home.is at his
  rw[if_pos his,getD_set,if_pos ⟨rfl,vB⟩,if_pos his]
 ·rw[if_neg e]
  split
  ·rename_i q
   simp only[Bool.and_eq_true,decide_eq_true_eq] at q
   rw[getD_set,if_neg (fun q2=>e vB)]
  ·rfl
theorem get_memTake {h:Home} {x:Int} (h0:0≤x) (h1:x < h.mem.length) (n:Int) (o d:Bool) (y:Int):(h.memTake x n o d).1.get y=(if y=x then (split (h.get x) n o d).2 else h.get y)/\(h.memTake x n o d).2=(split (h.get x) n o d).1:=by
 have his:h.is x=true:=by unfold Home.is;simp;omega
 unfold Home.memTake
 rw[if_pos his]
 refine⟨?_,rfl⟩
 have e0:h.get x=h.mem.getD x.toNat S.b0:=by unfold Home.get;rw[if_pos his]
 show Home.get { h with mem:=h.mem.set x.toNat (split (h.get x) n o d).2 } y=_
 generalize (split (h.get x) n o d).2=z
 unfold Home.get Home.is
 simp only[List.length_set]
 by_cases e:y=x
 ·rw[if_pos e,e]
  unfold Home.is at his
  rw[if_pos his,getD_set,if_pos ⟨rfl,vB⟩]
 ·rw[if_neg e]
  split
  ·rename_i q
   simp only[Bool.and_eq_true,decide_eq_true_eq] at q
   rw[getD_set,if_neg (fun q2=>e vB)]
  ·rfl
theorem memTake_len (h:Home) (x n:Int) (o d:Bool):(h.memTake x n o d).1.mem.length=h.mem.length:=by
 unfold Home.memTake;split
 ·simp
 ·rfl
theorem home_tokens (c:Cfg) (to_ b:Int) (t:Bun):Home.tokens c to_ b t=sendT c.nodes to_ b t:=by
 unfold Home.tokens sendT
 by_cases h:t.count < 1
 ·rw[if_pos h,if_neg vB]
 ·rw[if_neg h,if_pos vB]
theorem setRow_row (a:Arb) {b x:Int} (r:ARow) (h0:0≤b) (h1:b < a.rows.length) (hx:0≤x):(a.setRow b r).row x=if x=b then r else a.row x:=by
 unfold Arb.setRow Arb.row
 simp only
 rw[getD_set]
 by_cases e:x=b
 ·rw[if_pos e,if_pos ⟨vB,vB⟩]
 ·rw[if_neg e,if_neg (fun q=>e vB)]
end
structure Dlv (c:Cfg) (w:World) (l:Let) (rest:List Let) (d:Drw) (w':World) (ds:List Done):Prop where
 way:w.way=l :: rest
 home:l.dst=c.nodes->w'.nodes=w.nodes/\w'.home=(w.home.take c l d).1/\w'.way=rest ++ (w.home.take c l d).2/\ds=[]
 node:∀ j:Nat,l.dst=j->j < c.nodes.toNat->w'.nodes=w.nodes.set j ((nodeAt w j).take c l d).1/\w'.home=w.home/\w'.way=rest ++ ((nodeAt w j).take c l d).2.letters/\ds=((nodeAt w j).take c l d).2.done
section
variable {c:Cfg} {i:Nat} {op:Op} {v vv:Int->Int} {cnt:Nat->Int} {w w':World} {l:Let} {rest ls:List Let} {j:Nat} {n':Node} {d:Drw} {ds:List Done}
theorem Res.other (hW:WOk c w) (hI:Inv c i op v cnt w) (hw:w.way=l :: rest) (hj:j < c.nodes.toNat) (hji:j=i->n'.lines.tok op.block=(nodeAt w j).lines.tok op.block) (e1:w'.nodes=w.nodes.set j n') (e2:w'.home=w.home) (e3:w'.way=rest ++ ls)
  (hcpu:n'.cpu=(nodeAt w j).cpu) (f2:∀ x,0≤x->x < c.blocks->n'.know.over x≤(R w x).seq) (f3:∀ x,0≤x->x < c.blocks->n'.told x≤(R w x).seq) (f4:∀ x,(j≠i∨x≠op.block)->n'.asked x=false)
  (f6:∀ x∈ls,Shp c i op x/\x.seq≤(R w op.block).seq) (ph:Ph c i op w') (tk:Tok c (regB op v (nodeAt w i).cpu.busy) w') (hwt:wsum c ls < wt c l):Res c i op v cnt w w' []:=by
 have hn:=nodeAt_set hW.t.len e1 hj
 have hi:(nodeAt w' i).cpu=(nodeAt w i).cpu:=by
  rw[hn];split
  ·rename_i e;rw[hcpu,e]
  ·rfl
 refine⟨⟨hI.base.set hW.t.len hw hj e1 e2 e3 (fun hne=>by rw[hcpu];exact hI.base.idle j hj hne) f2 f3 f4 (fun e=>by rw[hcpu,hji e,e];exact hI.base.busy) f6,ph,by rw[hi];exact tk,fun k hk=>?_⟩,?_,by rw[hi];exact id,?_⟩
 ·rw[hn];split
  ·rename_i e;rw[hcpu,e];exact hI.num j hj
  ·exact hI.num k hk
 ·unfold S.mu
  rw[hi,e3,hw,wsum_app,wsum_cons];omega
 ·rw[hi,if_neg]
  ·rfl
  ·rintro⟨h1,h2⟩;rw[h1] at h2;cases h2
theorem Res.homeR (hI:Inv c i op v cnt w) (hw:w.way=l :: rest) (e1:w'.nodes=w.nodes) (e3:w'.way=rest ++ ls) (r0:w'.home.mem.length=w.home.mem.length)
  (r1:∀ x,0≤x->x < c.blocks->x≠op.block->R w' x=R w x) (r2:(R w' op.block).queue=[]) (r3:(R w op.block).seq≤(R w' op.block).seq) (f6:∀ x∈ls,Shp c i op x/\x.seq≤(R w' op.block).seq)
  (ph:Ph c i op w') (tk:Tok c (regB op v (nodeAt w i).cpu.busy) w') (hwt:wsum c ls < wt c l):Res c i op v cnt w w' []:=by
 have hi:nodeAt w' i=nodeAt w i:=nodeAt_same e1 i
 refine⟨⟨hI.base.homeTo hw e1 e3 r0 r1 r2 r3 f6,ph,by rw[hi];exact tk,fun k hk=>by rw[nodeAt_same e1];exact hI.num k hk⟩,?_,by rw[hi];exact id,?_⟩
 ·unfold S.mu
  rw[hi,e3,hw,wsum_app,wsum_cons];omega
 ·rw[hi,if_neg]
  ·rfl
  ·rintro⟨h1,h2⟩;rw[h1] at h2;cases h2
theorem lsum_one0 (f:Bun->Int) (x:Int) (hk:l.kind≠1):lsum f x [l]=0:=lsum_no f x _ (fun y hy=>by rw[List.mem_singleton.1 hy];exact hk)
theorem tok_split (hT:c.tokens≤65536) (h:Tok c vv w) (hl:w.nodes.length=c.nodes.toNat) (hw:w.way=l :: rest) (lk:l.kind≠1) (hj:j < c.nodes.toNat) {b k s t:Int} {o p:Bool}
  (hn':n'.lines.tok=upd (nodeAt w j).lines.tok b (split ((nodeAt w j).lines.tok b) k o p).2) (e1:w'.nodes=w.nodes.set j n') (e2:w'.home=w.home) (e3:w'.way=rest ++ sendT s t b (split ((nodeAt w j).lines.tok b) k o p).1):Tok c vv w':=by
 have hg:∀ x,Good c.tokens (vv x) ((nodeAt w j).lines.tok x):=h.node _ (nodeAt_mem hl hj)
 obtain⟨g1,g2,g3,g4⟩:=split_good (hg b) hT k o p
 refine h.node_move (ins:=[l]) hw vB e1 e2 e3 (fun x=>?_) (fun y hy _=>?_) (fun x h0 h1=>?_) (fun x h0 h1=>?_) (fun x hx=>absurd rfl hx)
 ·rw[hn'];unfold upd;split
  ·rename_i e;rw[e];exact g2
  ·exact hg x
 ·rw[sendT_mem hy];exact g1
 ·rw[(sendT_sum g1 x).1,lsum_one0 _ _ lk,hn']
  show cn (upd _ b _ x)+_=cn ((nodeAt w j).lines.tok x)+0
  by_cases e:b=x
  ·rw[if_pos e,<- e];simp only[upd,if_true];omega
  ·rw[if_neg e];simp only[upd,if_neg (fun q:x=b=>e q.symm)]
 ·rw[(sendT_sum g1 x).2,lsum_one0 _ _ lk,hn']
  show ow (upd _ b _ x)+_=ow ((nodeAt w j).lines.tok x)+0
  by_cases e:b=x
  ·rw[if_pos e,<- e];simp only[upd,if_true];omega
  ·rw[if_neg e];simp only[upd,if_neg (fun q:x=b=>e q.symm)]
theorem tok_splitH (hT:c.tokens≤65536) (h:Tok c vv w) (hw:w.way=l :: rest) (lk:l.kind≠1) {b k s t:Int} {o p:Bool} {pre:List Let} (hpre:∀ x∈pre,x.kind≠1)
  (hh:∀ y,w'.home.get y=if y=b then (split (w.home.get b) k o p).2 else w.home.get y) (e1:w'.nodes=w.nodes) (e3:w'.way=rest ++ (pre ++ sendT s t b (split (w.home.get b) k o p).1)):Tok c vv w':=by
 obtain⟨g1,g2,g3,g4⟩:=split_good (h.home b) hT k o p
 refine h.home_move (ins:=[l]) hw e1 e3 (fun x=>?_) (fun y hy hk=>?_) (fun x h0 h1=>?_) (fun x h0 h1=>?_)
 ·rw[hh];split
  ·rename_i e;rw[e];exact g2
  ·exact h.home x
 ·rcases List.mem_append.1 hy with q | q
  ·exact absurd hk (hpre y q)
  ·rw[sendT_mem q];exact g1
 ·rw[lsum_app,lsum_no _ _ _ hpre,(sendT_sum g1 x).1,lsum_one0 _ _ lk,hh]
  by_cases e:b=x
  ·rw[if_pos e,if_pos e.symm,e];rw[e] at g3;omega
  ·rw[if_neg e,if_neg (fun q:x=b=>e q.symm)];omega
 ·rw[lsum_app,lsum_no _ _ _ hpre,(sendT_sum g1 x).2,lsum_one0 _ _ lk,hh]
  by_cases e:b=x
  ·rw[if_pos e,if_pos e.symm,e];rw[e] at g4;omega
  ·rw[if_neg e,if_neg (fun q:x=b=>e q.symm)];omega
theorem tok_drop (h:Tok c vv w) (hw:w.way=l :: rest) (lk:∀ x,0≤x->x < c.blocks->lsum cn x [l]=0/\lsum ow x [l]=0) (e1:w'.nodes=w.nodes) (e2:w'.home=w.home) {pre:List Let} (hpre:∀ x∈pre,x.kind≠1) (e3:w'.way=rest ++ pre):Tok c vv w':=by
 refine h.home_move (ins:=[l]) hw e1 e3 (fun x=>by rw[e2];exact h.home x) (fun y hy hk=>absurd hk (hpre y hy)) (fun x h0 h1=>?_) (fun x h0 h1=>?_)
 ·rw[(lk x h0 h1).1,lsum_no _ _ _ hpre,e2]
 ·rw[(lk x h0 h1).2,lsum_no _ _ _ hpre,e2]
theorem Tok.homeQ {a:Arb} {h:Home} (hk:Tok c vv { w' with home:=h }) (e:w'.home={ h with queue:=a }):Tok c vv w':=by
 have hg:∀ x,w'.home.get x=h.get x:=fun x=>by rw[e];rfl
 refine⟨hk.node,fun x=>by rw[hg];exact hk.home x,hk.way,fun x h0 h1=>?_,fun x h0 h1=>?_⟩
 ·have:=hk.cnt x h0 h1;unfold tally at this ⊢;rw[hg];exact this
 ·have:=hk.own x h0 h1;unfold tally at this ⊢;rw[hg];exact this
theorem PhB.first (h:PhB c i op w) (hw:w.way=l :: rest):l=⟨3,i,c.nodes,op.block,0,0,false,S.b0⟩/\rest=[]:=by
 have:=h.way
 rw[hw] at this
 simpa using this
theorem get_len (hI:Inv c i op v cnt w) {x:Int} (h0:0≤x) (h1:x < c.blocks):x < w.home.mem.length:=by rw[hI.base.mem];omega
theorem mem_rest (hw:w.way=l :: rest) {x:Let} (hx:x∈w.way) (hne:x≠l):x∈rest:=by
 rw[hw] at hx
 exact(List.mem_cons.1 hx).resolve_left hne
theorem rest_way (hw:w.way=l :: rest) {x:Let} (hx:x∈rest):x∈w.way:=by rw[hw];exact kB _ hx
theorem dlv_out (hc:Small c) (hW:WOk c w) (hI:Inv c i op v cnt w) (hD:Dlv c w l rest d w' ds) {x:Int} {t:Bun} (hl:l=tokensL i c.nodes x t) (hx:x≠op.block):Res c i op v cnt w w' ds:=by
 obtain⟨-,-,-,-,-,-,-,-,-,-,-,-,hn1,hn2,hb1,hb2,ht1,ht2⟩:=check_ok hc.ok
 have hw:=hD.way
 obtain⟨e1,e2,e3,e4⟩:=hD.home (by rw[hl];rfl)
 subst e4
 have hiN:=hI.base.iN
 have hk:l.kind=1:=by rw[hl];rfl
 have hlw:l∈w.way:=by rw[hw];exact wA
 have hg:=hI.tok.way l hlw hk
 have hwt:wsum c [] < wt c l:=wt_pos c l
 have hsub:∀ y,y∈w.way->y.kind≠1->y∈rest:=fun y hy hne=>mem_rest hw hy (fun e=>hne (by rw[e];exact hk))
 have hR:∀ y,(w'.home.queue=w.home.queue)->R w' y=R w y:=fun y q=>by unfold R;rw[q]
 have hph:w'.home.queue=w.home.queue->w'.way=rest ++ []->w'.home.get op.block=w.home.get op.block->Ph c i op w':=fun q1 q2 q3=>by
  have hi:nodeAt w' i=nodeAt w i:=nodeAt_same e1 i
  have hin:∀ y∈w'.way,y∈w.way:=fun y hy=>rest_way hw (by rw[q2] at hy;simpa using hy)
  have hout:∀ y∈w.way,y.kind≠1->y∈w'.way:=fun y hy hne=>by rw[q2];simpa using hsub y hy hne
  rcases hI.ph with h | h | h | h
  ·exact .inl (h.keep (hR _ q1) (fun y hy=>.inl (hin y hy)) (by rw[hi];exact h.askd) (by rw[hi];exact h.tim))
  ·have:=(h.first hw).1;rw[this] at hk;have hk3:(3:Int)=1:=hk;omega
  ·exact .inr (.inr (.inl (h.keep (hR _ q1) (fun y hy=>.inl (hin y hy)) (fun y hy hk=>hout y hy vB) (by rw[q3];exact h.home) (fun k _=>by rw[nodeAt_same e1]) (fun k _ _ q=>by rw[nodeAt_same e1];exact q) (by rw[hi]) (by rw[hi]) (by rw[hi]) hiN)))
  ·exact .inr (.inr (.inr (h.keep (hR _ q1) (fun y hy=>.inl (hin y hy)) (fun y hy hk=>hout y hy vB) (by rw[hi];exact h.busy) (by rw[hi];exact h.askd))))
 by_cases hck:l.check c=0
 ·obtain⟨r1,r2,-,-,-,-⟩:=check_row hck
  have hxl:l.block=x:=by rw[hl];rfl
  rw[hxl] at r1 r2
  have hcur:w.home.queue.current l.block=U:=by
   unfold Arb.current
   rw[if_pos (.inr (.inr (by rw[hxl];exact(hI.base.rest x r1 r2 hx).1)))]
  have htk:w.home.take c l d=(w.home.put x t,[]):=by
   unfold Home.take
   rw[if_neg (by rw[hck,hl];simp[tokensL]),if_pos hk,hcur]
   rw[hl];rfl
  rw[htk] at e2 e3
  have hlen:=get_len hI r1 r2
  have hq:w'.home.queue=w.home.queue:=by
   rw[e2];unfold Home.put;split <;> rfl
  have hget:=get_put (h:=w.home) r1 hlen t
  have hgt:Good c.tokens (regB op v (nodeAt w i).cpu.busy x) t:=by have:=hg;rw[hl] at this;exact this
  have h2:=hI.tok.twoH hlw hk (by rw[hxl];exact r1) (by rw[hxl];exact r2)
  rw[hxl] at h2
  have hbl:l.bun=t:=by rw[hl];rfl
  rw[hbl] at h2
  obtain⟨j1,j2,j3⟩:=join_good (hI.tok.home x) hgt h2.1 ht2
  have j3:=j3 h2.2
  refine Res.homeR hI hw e1 e3 ?_ (fun y _ _ _=>hR y hq) (by rw[hR _ hq];exact hI.base.que) (by rw[hR _ hq];exact Int.le_refl _) (fun y hy=>by cases hy) (hph hq e3 ?_) ?_ hwt
  ·rw[e2];unfold Home.put;split
   ·simp
   ·rfl
  ·rw[e2,hget,if_neg (fun e=>hx e.symm)]
  ·refine hI.tok.home_move (ins:=[l]) hw e1 e3 (fun y=>?_) (fun y hy=>by cases hy) (fun y h0 h1=>?_) (fun y h0 h1=>?_)
   ·rw[e2,hget];split
    ·rename_i e;rw[e];exact j1
    ·exact hI.tok.home y
   ·rw[e2,hget,lsum_nil,lsum_cons,lsum_nil,hk,hxl,hbl]
    by_cases e:x=y
    ·rw[if_pos e.symm,if_pos ⟨rfl,e⟩,e];rw[e] at j2;omega
    ·rw[if_neg (fun q:y=x=>e q.symm),if_neg (fun q=>e q.2)];omega
   ·rw[e2,hget,lsum_nil,lsum_cons,lsum_nil,hk,hxl,hbl]
    by_cases e:x=y
    ·rw[if_pos e.symm,if_pos ⟨rfl,e⟩,e];rw[e] at j3;omega
    ·rw[if_neg (fun q:y=x=>e q.symm),if_neg (fun q=>e q.2)];omega
 ·have htk:w.home.take c l d=(w.home,[]):=by unfold Home.take;rw[if_pos (.inl hck)]
  rw[htk] at e2 e3
  have hq:w'.home.queue=w.home.queue:=by rw[e2]
  refine Res.homeR hI hw e1 e3 (by rw[e2]) (fun y _ _ _=>hR y hq) (by rw[hR _ hq];exact hI.base.que) (by rw[hR _ hq];exact Int.le_refl _) (fun y hy=>by cases hy) (hph hq e3 (by rw[e2])) ?_ hwt
  refine tok_drop hI.tok hw (fun y h0 h1=>?_) e1 e2 (pre:=[]) (fun y hy=>by cases hy) e3
  rw[lsum_cons,lsum_cons,lsum_nil,lsum_nil,hk]
  by_cases e:l.block=y
  ·have hz:l.bun.count≤0:=Classical.not_not.1 fun q=>hck (by
    have hgt:Good c.tokens (regB op v (nodeAt w i).cpu.busy l.block) l.bun:=hg
    rw[hl] at hgt q e ⊢
    exact tok_check hgt (by show 1≤t.count;have q':¬ t.count≤0:=q;omega) (by have e':x=y:=e;omega) (by have e':x=y:=e;omega) vB vB vB vB vB)
   rw[hg.none hz]
   have e1:cn S.b0=0:=rfl
   have e2:ow S.b0=0:=rfl
   rw[e1,e2];simp
  ·simp[e]
theorem dlv_ask (hc:Small c) (hW:WOk c w) (hI:Inv c i op v cnt w) (hD:Dlv c w l rest d w' ds) {t:Int} (hl:l=⟨2,i,t,op.block,0,0,op.write,S.b0⟩) (h0:0≤t) (h1:t≤c.nodes) (h2:t≠i):Res c i op v cnt w w' ds:=by
 obtain⟨-,-,-,-,-,-,-,-,-,-,-,-,hn1,hn2,hb1,hb2,ht1,ht2⟩:=check_ok hc.ok
 have hw:=hD.way
 have hiN:=hI.base.iN
 have hk:l.kind=2:=by rw[hl]
 have hlw:l∈w.way:=by rw[hw];exact wA
 have hA:PhA c i op w:=by
  rcases hI.ph with h | h | h | h
  ·exact h
  ·have:=(h.first hw).1;rw[this] at hk;have hk3:(3:Int)=2:=hk;omega
  ·exact absurd hk (h.kin l hlw).1
  ·exact absurd hk (h.kin l hlw).1
 have hck:=shp_check hc hiN hI.base.b0 hI.base.b1 (hI.base.shp l hlw).1 vB
 have hsq:=(seq_lo hW hI.base.b0 hI.base.b1).1
 have hwl:wt c l=3:=by unfold wt;rw[hk];rfl
 by_cases e:t=c.nodes
 ·obtain⟨e1,e2,e3,e4⟩:=hD.home (by rw[hl];exact e)
  subst e4
  have hlen:=get_len hI hI.base.b0 hI.base.b1
  have htk:w.home.take c l d=((w.home.memTake op.block (reply c.policy (w.home.get op.block) op.write d).1 (reply c.policy (w.home.get op.block) op.write d).2.1 (reply c.policy (w.home.get op.block) op.write d).2.2).1,sendT c.nodes i op.block (w.home.memTake op.block (reply c.policy (w.home.get op.block) op.write d).1 (reply c.policy (w.home.get op.block) op.write d).2.1 (reply c.policy (w.home.get op.block) op.write d).2.2).2):=by
   unfold Home.take
   rw[if_neg (by rw[hck,hl,e];simp),if_neg vB,if_pos hk]
   simp only[home_tokens]
   rw[hl]
  rw[htk] at e2 e3
  dsimp only at e2 e3
  generalize reply c.policy (w.home.get op.block) op.write d=r at e2 e3
  have hgt:=get_memTake (h:=w.home) hI.base.b0 hlen r.1 r.2.1 r.2.2
  rw[(hgt 0).2] at e3
  have hq:w'.home.queue=w.home.queue:=by rw[e2];exact memTake_queue _ _ _ _ _
  have hR:∀ y,R w' y=R w y:=fun y=>by unfold R;rw[hq]
  have hi:nodeAt w' i=nodeAt w i:=nodeAt_same e1 i
  refine Res.homeR hI hw e1 e3 (by rw[e2];exact memTake_len _ _ _ _ _) (fun y _ _ _=>hR y) (by rw[hR];exact hI.base.que) (by rw[hR];exact Int.le_refl _) (fun y hy=>?_) ?_ ?_ (by have:=sendT_wt c c.nodes i op.block (split (w.home.get op.block) r.1 r.2.1 r.2.2).1;omega)
  ·rw[sendT_mem hy,hR];exact⟨.tok _ _ vB (Int.le_refl _) vB,hsq⟩
  ·refine .inl (hA.keep (hR _) (fun y hy=>?_) (by rw[hi];exact hA.askd) (by rw[hi];exact hA.tim))
   rw[e3] at hy
   rcases List.mem_append.1 hy with q | q
   ·exact .inl (rest_way hw q)
   ·rw[sendT_mem q];exact .inr (by show(1:Int)≠3;decide)
  ·exact tok_splitH ht2 hI.tok hw vB (pre:=[]) (fun y hy=>by cases hy) (fun y=>by rw[e2];exact(hgt y).1) e1 e3
 ·have hj:t.toNat < c.nodes.toNat:=vB
  have hjt:((t.toNat:Nat):Int)=t:=vB
  obtain⟨e1,e2,e3,e4⟩:=hD.node t.toNat (by rw[hl];exact hjt.symm) hj
  have hji:t.toNat≠i:=vB
  have hid:(nodeAt w t.toNat).id=(t.toNat:Nat):=hW.t.ids _ hj
  have htk:=asks_eq (hI.base.idle _ hj hji) (l:=l) (by rw[hl];exact hI.base.b0) d hck (by rw[hid,hl];exact hjt.symm) hk
  rw[htk] at e1 e3 e4
  dsimp only at e1 e3 e4
  have hlb:l.block=op.block:=by rw[hl]
  have hls:l.src=i:=by rw[hl]
  rw[hlb] at e1
  rw[hlb,hls] at e3
  generalize reply c.policy ((nodeAt w t.toNat).lines.get op.block) l.write d=r at e1 e3
  have hn:=hW.node _ (nodeAt_mem hW.t.len hj)
  obtain⟨g1,g2⟩:=take_good hn.cac (hI.tok.node _ (nodeAt_mem hW.t.len hj)) ht2 op.block r.1 r.2.1 r.2.2
  simp only[g2] at e3
  subst e4
  have hi:nodeAt w' i=nodeAt w i:=by rw[nodeAt_set hW.t.len e1 hj,if_neg (fun q=>hji q.symm)]
  refine Res.other hW hI hw hj (fun e=>absurd e hji) e1 e2 e3 rfl (fun y h0 h1=>hI.base.over _ hj y h0 h1) (fun y h0 h1=>hI.base.told _ hj y h0 h1) (fun y hy=>hI.base.askd _ hj y hy) (fun y hy=>?_) ?_ ?_ (by have:=sendT_wt c (nodeAt w t.toNat).id i op.block (split ((nodeAt w t.toNat).lines.tok op.block) r.1 r.2.1 r.2.2).1;omega)
  ·rw[sendT_mem hy,hid];exact⟨.tok _ _ vB vB vB,hsq⟩
  ·refine .inl (hA.keep (R_same e2 _) (fun y hy=>?_) (by rw[hi];exact hA.askd) (by rw[hi];exact hA.tim))
   rw[e3] at hy
   rcases List.mem_append.1 hy with q | q
   ·exact .inl (rest_way hw q)
   ·rw[sendT_mem q];exact .inr (by show(1:Int)≠3;decide)
  ·exact tok_split ht2 hI.tok hW.t.len hw vB hj g1 e1 e2 e3
end
theorem spread_all {k s b q w:Int} {c:Cfg} (hn:c.nodes≤64) {j:Nat} (hj:(j:Int) < c.nodes):(⟨k,s,j,b,q,w,false,b0⟩:Let)∈spread k s b q w c.nodes:=by
 unfold spread
 exact List.mem_map.2 ⟨j,List.mem_range.2 vB,rfl⟩
theorem spread_one {k s b q w:Int} {c:Cfg} (hn:c.nodes≤64) {x:Let} (h:x∈spread k s b q w c.nodes):∃ j:Nat,(j:Int) < c.nodes/\x=⟨k,s,j,b,q,w,false,b0⟩:=by
 unfold spread at h
 obtain⟨j,hj,rfl⟩:=List.mem_map.1 h
 have:=List.mem_range.1 hj
 exact⟨j,vB,rfl⟩
theorem spread_len {k s b q w:Int} {c:Cfg} (hn:c.nodes≤4):(spread k s b q w c.nodes).length≤4:=by
 unfold spread;simp;omega
section
variable {c:Cfg} {i:Nat} {op:Op} {v vv:Int->Int} {cnt:Nat->Int} {w w':World} {l:Let} {rest ls:List Let} {j:Nat} {n':Node} {d:Drw} {ds:List Done}
theorem arb_is {a:Arb} {b n:Int} (h0:0≤b) (h1:b < a.rows.length) (h2:0≤n) (h3:n < a.nodes):a.is b n=true:=by
 unfold Arb.is;simp;omega
theorem setRow_len (a:Arb) (b:Int) (r:ARow):(a.setRow b r).rows.length=a.rows.length:=by simp[Arb.setRow]
theorem ask_next {a:Arb} {b n:Int} (h0:0≤b) (h1:b < a.rows.length) (his:a.is b n=true) (hon:(a.row b).on=false) (hen:(a.row b).ending=false) (hq:(a.row b).queue=[]) (hs:wrap64 ((a.row b).seq+1)=(a.row b).seq+1) :
  ∃ a',a.ask b n=(a',M ⟨b,n,(a.row b).seq+1⟩)/\∀ x,0≤x->a'.row x=if x=b then { a.row b with seq:=(a.row b).seq+1,active:=⟨b,n,(a.row b).seq+1⟩,on:=true,queue:=[]} else a.row x:=by
 unfold Arb.ask
 rw[if_pos his,hq]
 unfold Arb.next
 have h:=setRow_row a { a.row b with queue:=[] ++ [n]} h0 h1 h0
 rw[if_pos rfl] at h
 simp only[h]
 rw[if_neg (by rw[hon,hen];simp)]
 simp only[List.nil_append,hs]
 refine⟨_,rfl,fun x hx=>?_⟩
 rw[setRow_row _ _ h0 (by rw[setRow_len];exact h1) hx]
 split
 ·rfl
 ·rw[setRow_row _ _ h0 h1 hx]
  rename_i e
  rw[if_neg e]
theorem dlv_per (hc:Small c) (hW:WOk c w) (hst:w.steps≤2000000) (hI:Inv c i op v cnt w) (hD:Dlv c w l rest d w' ds) (hl:l=⟨3,i,c.nodes,op.block,0,0,false,S.b0⟩):Res c i op v cnt w w' ds:=by
 obtain⟨-,-,-,-,-,-,-,-,-,-,-,-,hn1,hn2,hb1,hb2,ht1,ht2⟩:=check_ok hc.ok
 have hw:=hD.way
 have hiN:=hI.base.iN
 have hk:l.kind=3:=by rw[hl]
 have hlw:l∈w.way:=by rw[hw];exact wA
 have hB:PhB c i op w:=by
  rcases hI.ph with h | h | h | h
  ·exact absurd hk (h.kin l hlw)
  ·exact h
  ·exact absurd hk (h.kin l hlw).2.1
  ·exact absurd hk (h.kin l hlw).2
 have hr:=(hB.first hw).2
 have hb0:=hI.base.b0
 have hb1:=hI.base.b1
 have hck:=shp_check hc hiN hb0 hb1 (hI.base.shp l hlw).1 vB
 obtain⟨hs0,hs1⟩:=seq_lo hW hb0 hb1
 have hwl:wt c l=60:=by unfold wt;rw[hk];rfl
 obtain⟨e1,e2,e3,e4⟩:=hD.home (by rw[hl])
 subst e4
 have hlen:=get_len hI hb0 hb1
 have hrl:op.block < w.home.queue.rows.length:=by rw[hW.t.rl];omega
 obtain⟨a',ha1,ha2⟩:=ask_next (a:=w.home.queue) (n:=i) hb0 hrl (arb_is hb0 hrl vB (by rw[hW.t.qn];omega)) hB.on hB.en hI.base.que (wrap_id (by unfold R at hs0;omega) (by unfold R at hs1;omega))
 have ha2b:=ha2 op.block hb0
 rw[if_pos rfl] at ha2b
 generalize hq:(w.home.queue.row op.block).seq+1=q at ha1 ha2 ha2b
 have hq':(R w op.block).seq+1=q:=hq
 have htk:w.home.take c l d=((({ w.home with queue:=a' }:Home).memTake op.block (w.home.get op.block).count true true).1,spread 4 c.nodes op.block q i c.nodes ++ sendT c.nodes i op.block (({ w.home with queue:=a' }:Home).memTake op.block (w.home.get op.block).count true true).2):=by
  unfold Home.take
  rw[if_neg (by rw[hck,hl];simp),if_neg vB,if_neg vB,if_pos hk,hl]
  simp only[ha1]
  unfold Home.begin_
  simp only[home_tokens]
 rw[htk] at e2 e3
 dsimp only at e2 e3
 have hgt:=get_memTake (h:=({ w.home with queue:=a' }:Home)) hb0 hlen (w.home.get op.block).count true true
 have hget:∀ y,(({ w.home with queue:=a' }:Home)).get y=w.home.get y:=fun y=>rfl
 rw[(hgt 0).2,hget] at e3
 have hgood:=hI.tok.home op.block
 have hall:=split_all hgood ht2
 have hqu:w'.home.queue=a':=by rw[e2];exact memTake_queue _ _ _ _ _
 have hR:∀ y,0≤y->R w' y=if y=op.block then { R w op.block with seq:=q,active:=⟨op.block,i,q⟩,on:=true,queue:=[]} else R w y:=fun y hy=>by
  unfold R;rw[hqu];exact ha2 y hy
 have hRb:R w' op.block={ R w op.block with seq:=q,active:=⟨op.block,i,q⟩,on:=true,queue:=[]}:=by rw[hR _ hb0,if_pos rfl]
 have hseq:(R w' op.block).seq=q:=by rw[hRb]
 have hi:nodeAt w' i=nodeAt w i:=nodeAt_same e1 i
 have hway:∀ y∈w'.way,(∃ k:Nat,(k:Int) < c.nodes/\y=⟨4,c.nodes,k,op.block,q,i,false,S.b0⟩)∨∃ t,y=tokensL c.nodes i op.block t:=fun y hy=>by
  rw[e3,hr] at hy
  rcases List.mem_append.1 (by simpa using hy) with q | q
  ·exact .inl (spread_one hn2 q)
  ·exact .inr ⟨_,sendT_mem q⟩
 refine Res.homeR hI hw e1 e3 (by rw[e2];exact memTake_len _ _ _ _ _) (fun y h0 h1 hy=>by rw[hR y h0,if_neg hy]) (by rw[hRb]) (by rw[hseq];omega) (fun y hy=>?_) ?_ ?_ ?_
 ·rw[hseq]
  rcases hway y (by rw[e3];exact List.mem_append.2 (.inr hy)) with ⟨k,h1,rfl⟩ | ⟨t,rfl⟩
  ·exact⟨.act k q h1 vB,Int.le_refl _⟩
  ·exact⟨.tok _ _ vB (Int.le_refl _) vB,by show(0:Int)≤q;omega⟩
 ·refine .inr (.inr (.inl ⟨by rw[hRb],by rw[hRb];exact hB.en,by rw[hRb],fun y hy=>?_,fun k hk=>?_,?_,fun k hk=>.inr ?_,fun k hk hki hne=>?_,.inl ⟨fun y hy=>?_,?_,.inl (by rw[hi];exact hB.busy)⟩⟩))
  ·rcases hway y hy with ⟨k,h1,rfl⟩ | ⟨t,rfl⟩
   ·exact⟨by show(4:Int)≠2;decide,by show(4:Int)≠3;decide,by show(4:Int)≠6;decide,by show(4:Int)≠7;decide⟩
   ·exact⟨by show(1:Int)≠2;decide,by show(1:Int)≠3;decide,by show(1:Int)≠6;decide,by show(1:Int)≠7;decide⟩
  ·rw[nodeAt_same e1,hseq]
   have:=hI.base.over k hk op.block hb0 hb1
   omega
  ·rw[e2,(hgt op.block).1,if_pos rfl,hget];exact hall
  ·rw[hseq,e3]
   exact List.mem_append.2 (.inr (List.mem_append.2 (.inl (spread_all hn2 vB))))
  ·rw[nodeAt_same e1] at hne
   exact absurd (rest_none hW.t hb0 hb1 hB.on hB.en hk) hne
  ·rcases hway y hy with ⟨k,h1,rfl⟩ | ⟨t,rfl⟩
   ·show(4:Int)≠5;decide
   ·show(1:Int)≠5;decide
  ·rw[hi,hseq]
   have:=hI.base.told i hiN op.block hb0 hb1
   omega
 ·refine tok_splitH ht2 hI.tok hw vB (pre:=spread 4 c.nodes op.block q i c.nodes) (fun y hy=>?_) (fun y=>by rw[e2];exact(hgt y).1) e1 e3
  obtain⟨k,-,rfl⟩:=spread_one hn2 hy
  show(4:Int)≠1;decide
 ·rw[wsum_app,hwl]
  have h1:=sendT_wt c c.nodes i op.block (split (w.home.get op.block) (w.home.get op.block).count true true).1
  have h2:=wsum_all (c:=c) (k:=13) (spread 4 c.nodes op.block q i c.nodes) (fun y hy=>by
   obtain⟨k,-,rfl⟩:=spread_one hn2 hy
   show(13:Nat)≤13;omega)
  have h3:=spread_len (k:=4) (s:=c.nodes) (b:=op.block) (q:=q) (w:=i) hc.n
  omega
theorem dlv_done (hc:Small c) (hW:WOk c w) (hI:Inv c i op v cnt w) (hD:Dlv c w l rest d w' ds) {q:Int} (hl:l=⟨5,i,c.nodes,op.block,q,0,false,S.b0⟩) (hq1:1≤q):Res c i op v cnt w w' ds:=by
 obtain⟨-,-,-,-,-,-,-,-,-,-,-,-,hn1,hn2,hb1,hb2,ht1,ht2⟩:=check_ok hc.ok
 have hw:=hD.way
 have hiN:=hI.base.iN
 have hk:l.kind=5:=by rw[hl]
 have hlw:l∈w.way:=by rw[hw];exact wA
 have hb0:=hI.base.b0
 have hb1:=hI.base.b1
 have hck:=shp_check hc hiN hb0 hb1 (hI.base.shp l hlw).1 vB
 have hwl:wt c l=10:=by unfold wt;rw[hk];rfl
 obtain⟨e1,e2,e3,e4⟩:=hD.home (by rw[hl])
 subst e4
 have hrl:op.block < w.home.queue.rows.length:=by rw[hW.t.rl];omega
 have hi:nodeAt w' i=nodeAt w i:=nodeAt_same e1 i
 have htk:w.home.take c l d=({ w.home with queue:=(w.home.queue.done op.block q).1 },if (w.home.queue.done op.block q).2 then spread 6 c.nodes op.block q 0 c.nodes else []):=by
  unfold Home.take
  rw[if_neg (by rw[hck,hl];simp),if_neg vB,if_neg vB,if_neg vB,if_pos hk,hl]
 rw[htk] at e2 e3
 dsimp only at e2 e3
 have no:w.home.queue.done op.block q=(w.home.queue,false)->Ph c i op w'->Res c i op v cnt w w' []:=fun hno hP=>by
  rw[hno] at e2 e3
  have hR:∀ y,R w' y=R w y:=fun y=>by unfold R;rw[e2]
  refine Res.homeR hI hw e1 e3 (by rw[e2]) (fun y _ _ _=>hR y) (by rw[hR];exact hI.base.que) (by rw[hR];exact Int.le_refl _) (fun y hy=>by cases hy) hP ?_ (wt_pos c l)
  exact tok_drop hI.tok hw (fun y _ _=>⟨lsum_one0 _ _ vB,lsum_one0 _ _ vB⟩) e1 e2 (pre:=[]) (fun y hy=>by cases hy) e3
 have off:(R w op.block).on=false->w.home.queue.done op.block q=(w.home.queue,false):=fun h=>by
  unfold Arb.done
  rw[if_neg vB,if_pos (by rw[show(w.home.queue.row op.block).on=false from h];rfl)]
 rcases hI.ph with h | h | h | h
 ·have hno:=off h.on
  refine no hno (.inl (h.keep (by unfold R;rw[e2,hno]) (fun y hy=>.inl ?_) (by rw[hi];exact h.askd) (by rw[hi];exact h.tim)))
  rw[e3,hno] at hy
  exact rest_way hw (by simpa using hy)
 ·have:=(h.first hw).1;rw[this] at hk;have hk3:(3:Int)=5:=hk;omega
 ·
  rcases h.st with ⟨h1,-,-⟩ | ⟨h1,h2,h3⟩
  ·exact absurd hk (h1 l hlw)
  by_cases hqs:q=(R w op.block).seq
  ·have hdn:w.home.queue.done op.block q=(w.home.queue.setRow op.block { w.home.queue.row op.block with on:=false,ending:=true,knows:=uA 64 false },true):=by
    unfold Arb.done
    rw[if_neg vB,if_neg]
    have h4:(w.home.queue.row op.block).on=true:=h.on
    have h5:(w.home.queue.row op.block).active.seq=q:=by
     show(R w op.block).active.seq=q
     rw[h.act,hqs]
    rw[h4,h5];simp
   rw[hdn] at e2 e3
   simp only[if_true] at e2 e3
   have hR:∀ y,0≤y->R w' y=if y=op.block then { R w op.block with on:=false,ending:=true,knows:=uA 64 false } else R w y:=fun y hy=>by
    unfold R;rw[e2];exact setRow_row _ _ hb0 hrl hy
   have hRb:R w' op.block={ R w op.block with on:=false,ending:=true,knows:=uA 64 false }:=by rw[hR _ hb0,if_pos rfl]
   have hseq:(R w' op.block).seq=q:=by rw[hRb];exact hqs.symm
   have hrep:∀ k,(uA 64 false).getD k false=false:=fun k=>by
    rw[cB,List.getElem?_replicate];split <;> rfl
   refine Res.homeR hI hw e1 e3 (by rw[e2]) (fun y h0 h1 hy=>by rw[hR y h0,if_neg hy]) (by rw[hRb];exact hI.base.que) (by rw[hseq];omega) (fun y hy=>?_) ?_ ?_ ?_
   ·obtain⟨k,hk,rfl⟩:=spread_one hn2 hy
    rw[hseq]
    exact⟨.deact k q hk hq1,Int.le_refl _⟩
   ·refine .inr (.inr (.inr ⟨by rw[hRb],by rw[hRb],by rw[hRb];show(R w op.block).active.node=_;rw[h.act],fun y hy=>?_,by rw[hi];exact h1,by rw[hi];exact h2,by rw[hRb];simp,fun k _=>by rw[hRb];exact hrep k,?_,fun k hk=>.inr (.inl ?_)⟩))
    ·rw[e3] at hy
     rcases List.mem_append.1 hy with q | q
     ·have:=h.kin y (rest_way hw q);exact⟨this.1,this.2.1⟩
     ·obtain⟨k,-,rfl⟩:=spread_one hn2 q
      exact⟨by show(6:Int)≠2;decide,by show(6:Int)≠3;decide⟩
    ·rw[hRb]
     intro e
     have e':(uA 64 false).getD 0 false=((List.range 64).map (fun(k:Nat)=>decide ((k:Int) < c.nodes))).getD 0 false:=congrArg (fun z=>z.getD 0 false) e
     rw[hrep] at e'
     have:decide ((0:Int) < c.nodes)=true:=decide_eq_true vB
     have e2:((List.range 64).map (fun(k:Nat)=>decide ((k:Int) < c.nodes))).getD 0 false=decide ((0:Int) < c.nodes):=rfl
     rw[e2,this] at e';cases e'
    ·rw[hseq,e3]
     exact List.mem_append.2 (.inr (spread_all hn2 vB))
   ·refine tok_drop hI.tok hw (fun y _ _=>⟨lsum_one0 _ _ vB,lsum_one0 _ _ vB⟩) (w':={ w' with home:=w.home }) e1 rfl (pre:=spread 6 c.nodes op.block q 0 c.nodes) (fun y hy=>?_) e3 |>.homeQ e2
    obtain⟨k,-,rfl⟩:=spread_one hn2 hy
    show(6:Int)≠1;decide
   ·rw[hwl]
    have h2:=wsum_all (c:=c) (k:=2) (spread 6 c.nodes op.block q 0 c.nodes) (fun y hy=>by
     obtain⟨k,-,rfl⟩:=spread_one hn2 hy
     show(2:Nat)≤2;omega)
    have h3:=spread_len (k:=6) (s:=c.nodes) (b:=op.block) (q:=q) (w:=0) hc.n
    omega
  ·have hno:w.home.queue.done op.block q=(w.home.queue,false):=by
    unfold Arb.done
    rw[if_neg vB,if_pos]
    have h5:(w.home.queue.row op.block).active.seq=(R w op.block).seq:=by
     show(R w op.block).active.seq=_
     rw[h.act]
    rw[h5];simp;exact .inr (fun e=>hqs e.symm)
   have hwy:w'.way=rest ++ []:=by rw[e3,hno];rfl
   refine no hno (.inr (.inr (.inl ⟨?_,?_,?_,fun y hy=>?_,fun k hk=>?_,?_,fun k hk=>?_,fun k hk hki hne=>?_,.inr ⟨by rw[hi];exact h1,by rw[hi];exact h2,?_⟩⟩)))
   all_goals have hR:R w' op.block=R w op.block:=by unfold R;rw[e2,hno]
   ·rw[hR];exact h.on
   ·rw[hR];exact h.en
   ·rw[hR];exact h.act
   ·rw[hwy] at hy;exact h.kin y (rest_way hw (by simpa using hy))
   ·rw[hR,nodeAt_same e1];exact h.ovr k hk
   ·rw[e2,hno];exact h.home
   ·rw[hR,nodeAt_same e1,hwy]
    refine(h.know k hk).imp id (fun q=>?_)
    have:=mem_rest hw q (fun e=>by rw[hl] at e;injection e with e;exact absurd e yB)
    simpa using this
   ·rw[nodeAt_same e1] at hne ⊢;exact h.tok k hk hki hne
   ·rw[hR,hwy]
    have:=mem_rest hw h3 (fun e=>by rw[hl] at e;injection e with _ _ _ _ e;exact hqs e.symm)
    simpa using this
 ·have hno:=off h.on
  have hwy:w'.way=rest ++ []:=by rw[e3,hno];rfl
  refine no hno (.inr (.inr (.inr (h.keep (by unfold R;rw[e2,hno]) (fun y hy=>.inl ?_) (fun y hy hk2=>?_) (by rw[hi];exact h.busy) (by rw[hi];exact h.askd)))))
  ·rw[hwy] at hy
   exact rest_way hw (by simpa using hy)
  ·rw[hwy]
   have:=mem_rest hw hy (fun e=>by rw[e] at hk2;omega)
   simpa using this
end
end Go.Proofs.YtiebppkhaiofeaaGreat.S
