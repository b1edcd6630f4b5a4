/- Part of the proof of TopStarver: what functions of the program do. -/
import Derived.Test.YtiebppkhaiofeaaGreatS16
import Derived.Test.YtiebppkhaiofeaaGreatS14
set_option maxHeartbeats 4000000
set_option maxRecDepth 100000
set_option linter.unusedVariables false
set_option linter.unusedSimpArgs false
namespace Go.Proofs.YtiebppkhaiofeaaGreat.S
open Go.RowKit (wrap64)
def Dst (c:Cfg) (ls:List Let):Prop:=∀ l∈ls,0≤l.dst/\l.dst≤c.nodes
theorem Dst.nil (c:Cfg):Dst c []:=fun _ h=>by cases h
theorem Dst.app {c:Cfg} {a b:List Let} (h:Dst c a) (k:Dst c b):Dst c (a ++ b):=fun l hl=>(List.mem_append.1 hl).elim (h l) (k l)
theorem Dst.one {c:Cfg} {l:Let} (h:0≤l.dst/\l.dst≤c.nodes):Dst c [l]:=fun x hx=>by
 simp only[List.mem_singleton] at hx;rw[hx];exact h
structure NOk (c:Cfg) (n:Node) (m:Int):Prop where
 cac:CInv c n.lines
 cnt:∀ b,0≤(n.lines.tok b).count/\(n.lines.tok b).count≤m
 act:∀ b a,n.know.act b=some a->0≤a.node/\a.node < c.nodes
structure OOk (c:Cfg) (o:Out) (k j:Nat):Prop where
 dst:Dst c o.letters
 len:o.letters.length≤k
 don:o.done.length≤j
theorem NOk.mono {c:Cfg} {n:Node} {m m':Int} (h:NOk c n m) (hm:m≤m'):NOk c n m':=⟨h.cac,fun b=>⟨(h.cnt b).1,Int.le_trans (h.cnt b).2 hm⟩,h.act⟩
theorem NOk.of {c:Cfg} {n n':Node} {m:Int} (h:NOk c n m) (hl:n'.lines=n.lines) (hk:n'.know=n.know):NOk c n' m:=⟨hl ▸ h.cac,hl ▸ h.cnt,hk ▸ h.act⟩
theorem OOk.none (c:Cfg):OOk c out0 0 0:=⟨Dst.nil c,Nat.le_refl _,Nat.le_refl _⟩
theorem OOk.mono {c:Cfg} {o:Out} {k j k' j':Nat} (h:OOk c o k j) (hk:k≤k') (hj:j≤j'):OOk c o k' j':=⟨h.dst,Nat.le_trans h.len hk,Nat.le_trans h.don hj⟩
theorem OOk.send {c:Cfg} {o:Out} {k j:Nat} (h:OOk c o k j) {l:Let} (hl:0≤l.dst/\l.dst≤c.nodes):OOk c (o.send l) (k+1) j :=
 ⟨h.dst.app (Dst.one hl),by have:=h.len;simp[Out.send];omega,h.don⟩
section
variable {c:Cfg} {n:Node} {m:Int} {o:Out} {k j:Nat}
theorem targets_in (s:Int) (d:Drw) (hn:0≤c.nodes):(targets c s d).length≤65/\∀ t∈targets c s d,0≤t/\t≤c.nodes:=by
 unfold targets
 split
 ·exact⟨by simp,fun t ht=>by simp at ht⟩
 ·refine⟨Nat.le_trans (List.length_filter_le _ _) (by simp;omega),fun t ht=>?_⟩
  obtain⟨i,hi,rfl⟩:=List.mem_map.1 (List.mem_filter.1 ht).1
  have:=List.mem_range.1 hi
  omega
theorem end_ok (hc:0≤c.nodes) (b:Int) (h:OOk c o k j):(n.end_ c b o).1.lines=n.lines/\(n.end_ c b o).1.know=n.know/\OOk c (n.end_ c b o).2 (k+1) j:=by
 unfold Node.end_
 cases n.own b with
 | none=>exact⟨rfl,rfl,h.mono (by omega) (Nat.le_refl _)⟩
 | some a =>
  by_cases q:a.seq≤n.told b
  ·simp only[if_pos q];exact⟨trivial,trivial,h.mono (by omega) (Nat.le_refl _)⟩
  ·simp only[if_neg q];exact⟨trivial,trivial,h.send ⟨hc,Int.le_refl _⟩⟩
theorem doOp_count (op:Op) (h:Bun) (t:Int):(doOp op h t).1.count=h.count:=by
 unfold doOp
 split
 ·rfl
 ·split <;> rfl
theorem settle_ok (hc:0≤c.nodes) (hn:NOk c n m) (h:OOk c o k j):NOk c (n.settle c o).1 m/\OOk c (n.settle c o).2 (k+1) (j+1)/\(n.settle c o).1.know=n.know:=by
 unfold Node.settle
 split
 ·exact⟨hn,h.mono (by omega) (by omega),rfl⟩
 ·simp only
  obtain⟨e1,e2,e3⟩:=doIt_eq hn.cac n.cpu.op
  split
  ·exact⟨hn,h.mono (by omega) (by omega),rfl⟩
  ·generalize n.lines.doIt c n.cpu.op=r at *
   obtain⟨k1,k2,k3⟩:=end_ok (n:={ n with lines:=r.1,cpu:=n.cpu.finish.1 }) (o:={ o with done:=o.done ++ [(⟨n.id,n.cpu.finish.2.1,n.cpu.op,r.2.1,0⟩:Done)]}) (j:=j+1) hc n.cpu.op.block ⟨h.dst,h.len,by have:=h.don;simp;omega⟩
   refine⟨⟨by rw[k1];exact e1,fun b=>?_,by rw[k2];exact hn.act⟩,k3,k2⟩
   rw[k1]
   show 0≤(r.1.tok b).count/\(r.1.tok b).count≤m
   rw[e3]
   split
   ·by_cases q:b=n.cpu.op.block
    ·simp only[upd,if_pos q,doOp_count];exact hn.cnt _
    ·simp only[upd,if_neg q];exact hn.cnt _
   ·exact hn.cnt _
theorem ask_ok (hc:0≤c.nodes) (op:Op) (d:Drw) (h:OOk c o k j):OOk c (n.ask c op d o) (k+65) j:=by
 obtain⟨t1,t2⟩:=targets_in (c:=c) n.id d hc
 refine⟨h.dst.app fun l hl=>?_,by have:=h.len;simp[Node.ask];omega,h.don⟩
 obtain⟨t,ht,rfl⟩:=List.mem_map.1 hl
 exact t2 t ht
theorem issue_ok (hc:0≤c.nodes) (hn:NOk c n m) (op:Op) (d:Drw):NOk c (n.issue c op d).1 m/\OOk c (n.issue c op d).2.1 67 2:=by
 unfold Node.issue
 split
 ·exact⟨hn,(OOk.none c).mono (by omega) (by omega)⟩
 ·simp only
  split
  ·exact⟨hn,(OOk.none c).mono (by omega) (by omega)⟩
  ·obtain⟨s1,s2,-⟩:=settle_ok (n:={ n with cpu:=(n.cpu.issue c op).1 }) (m:=m) hc (hn.of rfl rfl) (OOk.none c)
   refine⟨s1,?_⟩
   simp only
   split
   ·exact(ask_ok hc op d s2).mono (by omega) (by omega)
   ·exact s2.mono (by omega) (by omega)
theorem tick_ok (hc:0≤c.nodes) (hn:NOk c n m) (d:Drw):NOk c (n.tick c d).1 m/\OOk c (n.tick c d).2 67 2:=by
 unfold Node.tick
 simp only
 split
 ·exact⟨hn.of rfl rfl,(ask_ok hc _ d (OOk.none c)).mono (by omega) (by omega)⟩
 ·split
  ·split
   ·exact⟨hn.of rfl rfl,(OOk.none c).mono (by omega) (by omega)⟩
   ·exact⟨hn.of rfl rfl,((OOk.none c).send ⟨hc,Int.le_refl _⟩).mono (by omega) (by omega)⟩
  ·exact⟨hn.of rfl rfl,(OOk.none c).mono (by omega) (by omega)⟩
theorem check_row {l:Let} (h:l.check c=0):0≤l.block/\l.block < c.blocks/\endOk c l.src (rowsK l.kind).fromHome (rowsK l.kind).fromNode=true/\endOk c l.dst (rowsK l.kind).toHome (rowsK l.kind).toNode=true/\formOk c l (rowsK l.kind)=true/\((rowsK l.kind).tokens=true->l.bun.check c.tokens=0/\0 < l.bun.count):=by
 unfold Let.check at h
 split at h
 ·exact absurd h (by decide)
 split at h
 ·exact absurd h (by decide)
 rename_i q
 split at h
 ·exact absurd h (by decide)
 rename_i q2
 split at h
 ·exact absurd h (by decide)
 rename_i q3
 simp only[not_or,Bool.not_eq_false] at q2 q3
 refine⟨by omega,by omega,q2.2.1,q2.2.2,q3,fun ht=>?_⟩
 rw[if_neg (by simp[ht])] at h
 split at h
 ·rename_i q4
  rcases q4 with q4 | q4
  ·exact absurd h q4
  ·exact⟨h,q4⟩
 ·exact absurd h (by decide)
theorem end_in {a:Int} {x y:Bool} (hc:0≤c.nodes) (h:endOk c a x y=true):0≤a/\a≤c.nodes/\(x=false->a < c.nodes):=by
 unfold endOk at h
 simp only[Bool.or_eq_true,Bool.and_eq_true,beq_iff_eq,decide_eq_true_eq] at h
 rcases h with ⟨h1,h2⟩ | ⟨⟨h1,h2⟩,h3⟩
 ·exact⟨by omega,by omega,fun q=>by rw[q] at h1;cases h1⟩
 ·exact⟨h2,by omega,fun _=>h3⟩
theorem bun_check {b:Bun} {t:Int} (h:b.check t=0):0≤b.count/\b.count≤t:=by
 unfold Bun.check at h
 split at h
 ·exact absurd h (by decide)
 ·omega
theorem split_ok (hn:NOk c n m) (hm:m < 9223372036854775807) (b:Int) (x:Int) (y z:Bool):NOk c { n with lines:=(n.lines.take c b x y z).1 } m:=by
 obtain⟨e1,e2,e3⟩:=take_eq hn.cac b x y z
 refine⟨e1,fun b'=>?_,hn.act⟩
 show 0≤((n.lines.take c b x y z).1.tok b').count/\((n.lines.take c b x y z).1.tok b').count≤m
 rw[e3]
 have h0:=hn.cnt b
 by_cases q:b'=b
 ·simp only[upd,if_pos q]
  have:=split_count (h:=n.lines.tok b) h0.1 (by omega) x y z
  split
  ·omega
  ·rw[b0_count];omega
 ·simp only[upd,if_neg q];exact hn.cnt _
theorem absorb_ok (hn:NOk c n m) (hm0:0≤m) (hm:m < 4611686018427387904) {b:Int} (hb:0≤b) {t:Bun} (ht:1≤t.count/\t.count≤65536) (p:Int):NOk c { n with lines:=(n.lines.absorb c b t p).1 } (m+65536):=by
 obtain⟨e1,e2⟩:=absorb_eq hn.cac hb ht.1 p
 refine⟨e1,fun b'=>?_,hn.act⟩
 show 0≤((n.lines.absorb c b t p).1.tok b').count/\((n.lines.absorb c b t p).1.tok b').count≤m+65536
 have hb':=hn.cnt b'
 have hb2:=hn.cnt b
 rcases e2 with ⟨q,-⟩ | ⟨q,-⟩ | ⟨x,-,-,-,-,-,q,-⟩ | ⟨q,-⟩
 ·rw[q]
  by_cases e:b'=b
  ·simp only[upd,if_pos e,join,valued_count]
   rw[wrap_id (by omega) (by omega)];omega
  ·simp only[upd,if_neg e];omega
 ·rw[q]
  by_cases e:b'=b
  ·simp only[upd,if_pos e];omega
  ·simp only[upd,if_neg e];omega
 ·rw[q]
  by_cases e:b'=b
  ·simp only[upd,if_pos e];omega
  ·simp only[upd,if_neg e]
   by_cases e':b'=x
   ·simp only[if_pos e',b0_count];omega
   ·simp only[if_neg e'];omega
 ·rw[q];omega
theorem own_in (hn:NOk c n m) {b:Int} {to_:Int} (h:n.other b=some to_):0≤to_/\to_ < c.nodes:=by
 unfold Node.other at h
 split at h
 ·rename_i a ha
  split at h
  ·cases h
  ·injection h with h;rw[<- h];exact hn.act b a ha
 ·cases h
theorem ntake_ok (hc:c.check=0) (hn:NOk c n m) (hm0:0≤m) (hm:m < 4611686018427387904) (l:Let) (d:Drw):NOk c (n.take c l d).1 (m+65536)/\OOk c (n.take c l d).2 67 2:=by
 obtain⟨-,-,-,-,-,-,-,-,-,-,-,-,hn1,hn2,hb1,hb2,ht1,ht2⟩:=check_ok hc
 have h0:0≤c.nodes:=by omega
 have hno:OOk c out0 67 2:=(OOk.none c).mono (by omega) (by omega)
 unfold Node.take
 split
 ·exact⟨hn.mono (by omega),hno⟩
 rename_i hck
 have hck:l.check c=0:=by simpa using (not_or.1 hck).1
 obtain⟨r1,r2,r3,r4,r5,r6⟩:=check_row hck
 split
 ·rename_i k1
  rw[k1] at r3 r4 r5 r6
  have hbn:=r6 rfl
  have hbc:=bun_check hbn.1
  unfold Node.tokens
  split
  ·rename_i to_ hto
   have:=own_in hn hto
   exact⟨hn.mono (by omega),((OOk.none c).send (l:=tokensL n.id to_ l.block l.bun) ⟨this.1,by show to_≤_;omega⟩).mono (by omega) (by omega)⟩
  ·simp only
   have hA:=absorb_ok hn hm0 hm r1 (t:=l.bun) ⟨by omega,by omega⟩ n.cpu.pinned
   split
   ·rename_i g hg
    have:=settle_ok h0 hA ((OOk.none c).send (l:=tokensL n.id c.nodes g.block g.bun) ⟨h0,Int.le_refl _⟩)
    exact⟨this.1,this.2.1.mono (by omega) (by omega)⟩
   ·have:=settle_ok h0 hA (OOk.none c)
    exact⟨this.1,this.2.1.mono (by omega) (by omega)⟩
 split
 ·rename_i k2
  rw[k2] at r3 r4 r5 r6
  have hs:=end_in h0 r3
  unfold Node.asks
  split
  ·exact⟨hn.mono (by omega),hno⟩
  ·simp only
   refine⟨(split_ok hn (by omega) _ _ _ _).mono (by omega),?_⟩
   split
   ·exact((OOk.none c).send ⟨hs.1,hs.2.1⟩).mono (by omega) (by omega)
   ·exact hno
 split
 ·rename_i k4
  rw[k4] at r3 r4 r5 r6
  have hwho:0≤l.who/\l.who < c.nodes:=by
   unfold formOk at r5
   simp only[Bool.and_eq_true] at r5
   have:=r5.1.2
   have e:(rowsK 4).who=true:=rfl
   rw[e] at this
   simp only[Bool.true_and,Bool.not_true,Bool.false_and,Bool.or_false] at this
   have:=end_in h0 this
   exact⟨this.1,this.2.2 rfl⟩
  have hact:NOk c { n with know:=(n.know.activate ⟨l.block,l.who,l.seq⟩).1 } m:=by
   refine⟨hn.cac,hn.cnt,fun b a ha=>?_⟩
   have ha':(n.know.activate ⟨l.block,l.who,l.seq⟩).1.act b=some a:=ha
   unfold Table.activate at ha'
   split at ha'
   ·exact hn.act b a ha'
   ·by_cases q:b=l.block
    ·simp only[upd,if_pos q] at ha'
     injection ha' with ha'
     rw[<- ha'];exact hwho
    ·simp only[upd,if_neg q] at ha'
     exact hn.act b a ha'
  unfold Node.activate
  simp only
  split
  ·exact⟨hn.mono (by omega),hno⟩
  ·split
   ·split
    ·have:=end_ok (n:={ n with know:=(n.know.activate ⟨l.block,l.who,l.seq⟩).1 }) h0 l.block (OOk.none c)
     exact⟨(hact.of this.1 this.2.1).mono (by omega),this.2.2.mono (by omega) (by omega)⟩
    ·exact⟨hact.mono (by omega),hno⟩
   ·refine⟨(split_ok hact (by omega) _ _ _ _).mono (by omega),?_⟩
    simp only
    split
    ·exact((OOk.none c).send (l:=tokensL n.id l.who l.block _) ⟨hwho.1,by show l.who≤_;omega⟩).mono (by omega) (by omega)
    ·exact hno
 split
 ·unfold Node.deactivate
  refine⟨⟨hn.cac,fun b=>⟨(hn.cnt b).1,Int.le_trans (hn.cnt b).2 (by omega)⟩,fun b a ha=>?_⟩,((OOk.none c).send ⟨h0,Int.le_refl _⟩).mono (by omega) (by omega)⟩
  exact hn.act b a (act_deact n.know l.block l.seq b a ha).1
 ·exact⟨hn.mono (by omega),hno⟩
end
structure ROk (c:Cfg) (r:ARow) (m:Int):Prop where
 len:(r.queue.length:Int)≤m
 mem:∀ x∈r.queue,0≤x/\x < c.nodes
 act:r.on=true->0≤r.active.node/\r.active.node < c.nodes
def AOk (c:Cfg) (a:Arb) (m:Int):Prop:=∀ r∈a.rows,ROk c r m
section
variable {c:Cfg} {a:Arb} {m:Int}
theorem ROk.mono {r:ARow} {m':Int} (h:ROk c r m) (hm:m≤m'):ROk c r m':=⟨Int.le_trans h.len hm,h.mem,h.act⟩
theorem AOk.mono {m':Int} (h:AOk c a m) (hm:m≤m'):AOk c a m':=fun r hr=>(h r hr).mono hm
theorem rok_zero (hm:0≤m):ROk c ar0 m:=⟨hm,(fun x hx=>by cases hx),(fun h=>by cases h)⟩
theorem AOk.row (h:AOk c a m) (hm:0≤m) (b:Int):ROk c (a.row b) m:=by
 unfold Arb.row
 rw[List.getD_eq_getElem?_getD]
 cases q:a.rows[b.toNat]? with
 | none=>exact rok_zero hm
 | some r=>exact h r (List.mem_of_getElem? q)
theorem AOk.setRow (h:AOk c a m) (b:Int) {r:ARow} (hr:ROk c r m):AOk c (a.setRow b r) m:=fun x hx=>by
 rcases List.mem_or_eq_of_mem_set hx with q | q
 ·exact h x q
 ·rw[q];exact hr
theorem next_ok (h:AOk c a m) (hm:0≤m) (b:Int):AOk c (a.next b).1 m/\∀ x,(a.next b).2=some x->0≤x.node/\x.node < c.nodes:=by
 have hr:=h.row hm b
 unfold Arb.next
 simp only
 split
 ·exact⟨h,fun x hx=>by cases hx⟩
 ·split
  ·exact⟨h,fun x hx=>by cases hx⟩
  ·rename_i n q hq
   have hn:=hr.mem n (by rw[hq];exact List.mem_cons_self)
   refine⟨h.setRow b ⟨?_,fun x hx=>hr.mem x (by rw[hq];exact List.mem_cons_of_mem _ hx),fun _=>hn⟩,fun x hx=>?_⟩
   ·have:=hr.len;rw[hq] at this;simp at this ⊢;omega
   ·injection hx with hx;rw[<- hx];exact hn
theorem tokens_dst (hc:0≤c.nodes) {to_:Int} (h:0≤to_/\to_≤c.nodes) (b:Int) (t:Bun):Dst c (Home.tokens c to_ b t)/\(Home.tokens c to_ b t).length≤1:=by
 unfold Home.tokens
 split
 ·exact⟨Dst.nil c,by simp⟩
 ·exact⟨Dst.one h,by simp⟩
theorem spread_dst (hc:0≤c.nodes) (k s b q w:Int):Dst c (spread k s b q w c.nodes)/\(spread k s b q w c.nodes).length≤64:=by
 unfold spread
 refine⟨fun l hl=>?_,by simp;omega⟩
 obtain⟨i,hi,rfl⟩:=List.mem_map.1 hl
 have:=List.mem_range.1 hi
 show 0≤(i:Int)/\(i:Int)≤c.nodes
 omega
theorem memTake_queue (h:Home) (b n:Int) (x y:Bool):(h.memTake b n x y).1.queue=h.queue:=by unfold Home.memTake;split <;> rfl
theorem begin_ok (hc:0≤c.nodes) (hm:Home) {r:Arb×Option Act} (h:AOk c r.1 m) (hr:∀ x,r.2=some x->0≤x.node/\x.node < c.nodes):AOk c (hm.begin_ c r).1.queue m/\Dst c (hm.begin_ c r).2/\(hm.begin_ c r).2.length≤65:=by
 unfold Home.begin_
 split
 ·exact⟨h,Dst.nil c,by simp⟩
 ·rename_i a ha
  have:=hr a ha
  have hs:=spread_dst hc 4 c.nodes a.block a.seq a.node
  have ht:=tokens_dst (c:=c) hc (to_:=a.node) ⟨this.1,by omega⟩ a.block (({ hm with queue:=r.1 }:Home).memTake a.block (hm.get a.block).count true true).2
  simp only[memTake_queue]
  exact⟨h,hs.1.app ht.1,by rw[List.length_append];omega⟩
theorem htake_ok (hc:0≤c.nodes) {h:Home} (hA:AOk c h.queue m) (hm:0≤m) (hq:h.queue.nodes=c.nodes) (l:Let) (d:Drw):AOk c (h.take c l d).1.queue (m+1)/\Dst c (h.take c l d).2/\(h.take c l d).2.length≤65:=by
 have hA1:AOk c h.queue (m+1):=hA.mono (by omega)
 have hno:AOk c h.queue (m+1)/\Dst c []/\([]:List Let).length≤65:=⟨hA1,Dst.nil c,by simp⟩
 unfold Home.take
 split
 ·exact hno
 rename_i hck
 have hck:l.check c=0:=by simpa using (not_or.1 hck).1
 obtain⟨r1,r2,r3,r4,r5,r6⟩:=check_row hck
 have hsrc:=end_in hc r3
 split
 ·split
  ·rename_i a ha
   have hn:0≤a.node/\a.node < c.nodes:=by
    unfold Arb.current at ha
    split at ha
    ·cases ha
    ·rename_i q
     injection ha with ha
     rw[<- ha]
     exact(hA.row hm l.block).act (by simp only[not_or] at q;simpa using q.2.2)
   have ht:=tokens_dst (c:=c) hc (to_:=a.node) ⟨hn.1,by omega⟩ l.block l.bun
   exact⟨hA1,ht.1,Nat.le_trans ht.2 (by omega)⟩
  ·have:(h.put l.block l.bun).queue=h.queue:=by unfold Home.put;split <;> rfl
   simp only[this]
   exact hno
 split
 ·simp only[memTake_queue]
  have ht:=tokens_dst (c:=c) hc (to_:=l.src) ⟨hsrc.1,hsrc.2.1⟩ l.block (h.memTake l.block (reply c.policy (h.get l.block) l.write d).1 (reply c.policy (h.get l.block) l.write d).2.1 (reply c.policy (h.get l.block) l.write d).2.2).2
  exact⟨hA1,ht.1,Nat.le_trans ht.2 (by omega)⟩
 split
 ·refine begin_ok hc h ?_ ?_
  ·unfold Arb.ask
   split
   ·rename_i his
    have hr:=hA.row hm l.block
    have hs:0≤l.src/\l.src < c.nodes:=by
     unfold Arb.is at his
     rw[hq] at his
     simp only[Bool.and_eq_true,decide_eq_true_eq] at his
     omega
    exact(next_ok (hA1.setRow l.block (r:={ h.queue.row l.block with queue:=(h.queue.row l.block).queue ++ [l.src]}) ⟨by have:=hr.len;simp;omega,fun x hx=>(List.mem_append.1 hx).elim (hr.mem x) (fun q=>by simp at q;rw[q];exact hs),hr.act⟩) (by omega) l.block).1
   ·exact hA1
  ·intro x hx
   unfold Arb.ask at hx
   split at hx
   ·rename_i his
    have hr:=hA.row hm l.block
    have hs:0≤l.src/\l.src < c.nodes:=by
     unfold Arb.is at his
     rw[hq] at his
     simp only[Bool.and_eq_true,decide_eq_true_eq] at his
     omega
    exact(next_ok (hA1.setRow l.block (r:={ h.queue.row l.block with queue:=(h.queue.row l.block).queue ++ [l.src]}) ⟨by have:=hr.len;simp;omega,fun x hx=>(List.mem_append.1 hx).elim (hr.mem x) (fun q=>by simp at q;rw[q];exact hs),hr.act⟩) (by omega) l.block).2 x hx
   ·cases hx
 split
 ·unfold Arb.done
  split
  ·simp only
   exact⟨hA1,Dst.nil c,by simp⟩
  ·split
   ·simp only
    exact⟨hA1,Dst.nil c,by simp⟩
   ·simp only[if_true]
    have hr:=(hA1.row (by omega) l.block)
    have hs:=spread_dst hc 6 c.nodes l.block l.seq 0
    exact⟨hA1.setRow l.block ⟨hr.len,hr.mem,fun q=>by cases q⟩,hs.1,by omega⟩
 split
 ·have hr:=(hA1.row (by omega) l.block)
  refine begin_ok hc h ?_ ?_
  ·unfold Arb.ack
   split
   ·exact hA1
   ·split
    ·exact hA1
    ·simp only
     split
     ·exact hA1.setRow l.block ⟨hr.len,hr.mem,hr.act⟩
     ·exact(next_ok (hA1.setRow l.block (r:={ h.queue.row l.block with knows:=(h.queue.row l.block).knows.set l.src.toNat true,ending:=false }) ⟨hr.len,hr.mem,hr.act⟩) (by omega) l.block).1
  ·intro x hx
   unfold Arb.ack at hx
   split at hx
   ·cases hx
   ·split at hx
    ·cases hx
    ·simp only at hx
     split at hx
     ·cases hx
     ·exact(next_ok (hA1.setRow l.block (r:={ h.queue.row l.block with knows:=(h.queue.row l.block).knows.set l.src.toNat true,ending:=false }) ⟨hr.len,hr.mem,hr.act⟩) (by omega) l.block).2 x hx
 ·exact hno
end
structure WOk (c:Cfg) (w:World):Prop where
 t:TInv c w
 node:∀ n∈w.nodes,NOk c n (65536 * w.steps)
 arb:AOk c w.home.queue w.steps
 dst:Dst c w.way
 room:(w.way.length:Int)≤c.cap
theorem wok_new {c:Cfg} (hc:c.check=0):WOk c (World.new c):=by
 obtain⟨-,-,q1,-,q2,-,-,-,-,-,-,-,hn1,hn2,hb1,hb2,ht1,ht2⟩:=check_ok hc
 refine⟨tinv_new hc,fun n hn=>?_,fun r hr=>?_,Dst.nil c,by show(0:Int)≤_;omega⟩
 ·obtain⟨i,-,rfl⟩:=List.mem_map.1 hn
  exact⟨cinv_new q1,fun b=>⟨Int.le_refl _,Int.le_refl _⟩,fun b a ha=>by cases ha⟩
 ·have hr':r∈List.replicate (min (max c.blocks 0) 64).toNat ar0:=hr
  rw[(List.mem_replicate.1 hr').2]
  exact rok_zero (Int.le_refl _)
section
variable {c:Cfg} {w:World}
theorem nok_new (c:Cfg) (h:1≤c.ways) (i:Int) {m:Int} (hm:0≤m):NOk c (Node.new i) m:=⟨cinv_new h,fun b=>⟨Int.le_refl _,hm⟩,fun b a ha=>by cases ha⟩
theorem WOk.get (h:WOk c w) (hw:1≤c.ways) (i:Int):NOk c (w.node i) (65536 * w.steps):=by
 unfold World.node
 rw[List.getD_eq_getElem?_getD]
 cases q:w.nodes[i.toNat]? with
 | none=>exact nok_new c hw i (by have:=h.t.st;omega)
 | some n=>exact h.node n (List.mem_of_getElem? q)
structure ActOk (c:Cfg) (w:World) (r:Bool×World×List Let×List Done):Prop where
 node:∀ n∈r.2.1.nodes,NOk c n (65536 * (w.steps+1))
 arb:AOk c r.2.1.home.queue (w.steps+1)
 dst:Dst c r.2.1.way
 room:r.2.1.way.length≤w.way.length
 out:Dst c r.2.2.1
 len:r.2.2.1.length≤67 * 64
 don:r.2.2.2.length≤2 * 64
theorem nodes_set_ok {m m':Int} {i:Nat} {n':Node} (h:∀ n∈w.nodes,NOk c n m) (hm:m≤m') (hn:NOk c n' m'):∀ n∈w.nodes.set i n',NOk c n m':=fun n hx=>by
 rcases List.mem_or_eq_of_mem_set hx with q | q
 ·exact(h n q).mono hm
 ·rw[q];exact hn
theorem acts_ok (hc:c.check=0) (h:WOk c w) (hst:w.steps < 35184372088832) (e:Ent):ActOk c w (({ w with steps:=w.steps+1 }:World).acts c e):=by
 obtain⟨-,-,q1,-,q2,-,-,-,-,-,-,-,hn1,hn2,hb1,hb2,ht1,ht2⟩:=check_ok hc
 have h0:=h.t.st
 have hN0:∀ n∈w.nodes,NOk c n (65536 * (w.steps+1)):=fun n hn=>(h.node n hn).mono (by omega)
 have hA0:AOk c w.home.queue (w.steps+1):=h.arb.mono (by omega)
 have hno:∀ (b:Bool) (t:Int) (s:Int),ActOk c w (b,({ steps:=s,ticks:=t,nodes:=w.nodes,home:=w.home,way:=w.way }:World),[],[]):=fun b t s=>⟨hN0,hA0,h.dst,Nat.le_refl _,Dst.nil c,by simp,by simp⟩
 have hers:∀ i,Dst c (w.way.eraseIdx i)/\(w.way.eraseIdx i).length≤w.way.length:=fun i=>⟨fun l hl=>h.dst l (List.mem_of_mem_eraseIdx hl),List.length_eraseIdx_le _ _⟩
 unfold World.acts
 split
 ·have:=issue_ok (by omega) (h.get q1 e.a) e.op ⟨0,0,0⟩
  exact⟨nodes_set_ok h.node (by omega) (this.1.mono (by omega)),hA0,h.dst,Nat.le_refl _,this.2.dst,Nat.le_trans this.2.len (by omega),Nat.le_trans this.2.don (by omega)⟩
 split
 ·split
  ·simp only
   split
   ·have:=htake_ok (c:=c) (by omega) h.arb h0 h.t.qn (w.way.getD e.a.toNat let0) ⟨e.b,e.c,e.d⟩
    exact⟨hN0,this.1,(hers _).1,(hers _).2,this.2.1,Nat.le_trans this.2.2 (by omega),by simp⟩
   ·have:=ntake_ok hc (h.get q1 (w.way.getD e.a.toNat let0).dst) (by omega) (by omega) (w.way.getD e.a.toNat let0) ⟨e.b,e.c,e.d⟩
    exact⟨nodes_set_ok h.node (by omega) (this.1.mono (by omega)),hA0,(hers _).1,(hers _).2,this.2.dst,Nat.le_trans this.2.len (by omega),Nat.le_trans this.2.don (by omega)⟩
  ·exact hno _ _ _
 split
 ·split
  ·exact⟨hN0,hA0,(hers _).1,(hers _).2,Dst.nil c,by simp,by simp⟩
  ·exact hno _ _ _
 ·simp only
  have hk:∀ n∈w.nodes,NOk c (n.tick c ⟨e.b,e.c,e.d⟩).1 (65536 * w.steps)/\OOk c (n.tick c ⟨e.b,e.c,e.d⟩).2 67 2:=fun n hn=>tick_ok (by omega) (h.node n hn) _
  have hl:w.nodes.length≤64:=by rw[h.t.len];omega
  have hb:∀ (ns:List Node),(∀ n∈ns,OOk c (n.tick c ⟨e.b,e.c,e.d⟩).2 67 2)->Dst c ((ns.map fun(n:Node)=>n.tick c ⟨e.b,e.c,e.d⟩).flatMap (·.2.letters))/\((ns.map fun(n:Node)=>n.tick c ⟨e.b,e.c,e.d⟩).flatMap (·.2.letters)).length≤67 * ns.length/\((ns.map fun(n:Node)=>n.tick c ⟨e.b,e.c,e.d⟩).flatMap (·.2.done)).length≤2 * ns.length:=by
   intro ns
   induction ns with
   | nil=>intro _;exact⟨Dst.nil c,by simp,by simp⟩
   | cons n ns ih =>
    intro hx
    obtain⟨i1,i2,i3⟩:=ih (fun n hn=>hx n (List.mem_cons_of_mem _ hn))
    have hn:=hx n List.mem_cons_self
    simp only[List.map_cons,List.flatMap_cons,List.length_append,List.length_cons]
    exact⟨hn.dst.app i1,by have:=hn.len;omega,by have:=hn.don;omega⟩
  obtain⟨b1,b2,b3⟩:=hb w.nodes (fun n hn=>(hk n hn).2)
  refine⟨fun n hn=>?_,hA0,h.dst,Nat.le_refl _,b1,by simp only at b2 ⊢;omega,by simp only at b3 ⊢;omega⟩
  simp only[List.map_map,List.mem_map] at hn
  obtain⟨x,hx,rfl⟩:=hn
  exact(hk x hx).1.mono (by omega)
theorem wok_step (hc:c.check=0) (h:WOk c w) (hst:w.steps < 35184372088832) (e:Ent):WOk c (w.step c e).1:=by
 obtain⟨hT,-,hS⟩:=tinv_step hc h.t (by omega) e
 have h0:=h.t.st
 have hw:wrap64 (w.steps+1)=w.steps+1:=wrap_id (by omega) (by omega)
 have hA:=acts_ok hc h hst e
 have hN0:∀ n∈w.nodes,NOk c n (65536 * (w.steps+1)):=fun n hn=>(h.node n hn).mono (by omega)
 have hA0:AOk c w.home.queue (w.steps+1):=h.arb.mono (by omega)
 refine⟨hT,?_,?_,?_,?_⟩
 ·rw[hS]
  unfold World.step;simp only;rw[hw]
  repeat' split
  ·exact hN0
  ·exact hA.node
  ·exact hN0
  ·exact hA.node
 ·rw[hS]
  unfold World.step;simp only;rw[hw]
  repeat' split
  ·exact hA0
  ·exact hA.arb
  ·exact hA0
  ·exact hA.arb
 ·unfold World.step;simp only;rw[hw]
  repeat' split
  ·exact h.dst
  ·exact hA.dst
  ·exact h.dst
  ·exact hA.dst.app hA.out
 ·have hr:=h.room
  have:=hA.room
  unfold World.step;simp only;rw[hw]
  repeat' split
  ·exact hr
  ·simp only at this ⊢;omega
  ·exact hr
  ·rename_i q
   simp only[List.length_append] at q ⊢;omega
end
end Go.Proofs.YtiebppkhaiofeaaGreat.S
namespace Go.Proofs.YtiebppkhaiofeaaGreat.K
open Go.RowKit Go.Proofs.YtiebppkhaiofeaaGreatW.PrintWords Go.Proofs.YtiebppkhaiofeaaGreat.S
attribute [local go_sem] World.cell?_alloc_some
open Go.ChangeMaps Go.MapKept
def iv (a b:Nat):Set_:=fun x=>a≤x/\x < b
def Lays (P:Set_->Go.World->Prop) (X w:Go.World):Prop:=P (iv X.heap.size w.heap.size) w/\Below X.heap.size X w
theorem Lays.size {P:Set_->Go.World->Prop} {X w:Go.World} (h:Lays P X w):X.heap.size≤w.heap.size:=h.2.size
theorem Lays.chain {P:Set_->Go.World->Prop} {A X w:Go.World} (h:Lays P X w) (k:Below A.heap.size A X):Below A.heap.size A w:=k.trans (h.2.mono k.size)
theorem sz_alloc (w:Go.World) (o:Obj):(w.alloc o).heap.size=w.heap.size+1:=by simp only[World.size_alloc]
theorem sz_drew (w:Go.World):w.drew.heap.size=w.heap.size:=rfl
theorem sz_set (w:Go.World) (a:Addr) (v:Value):(w.setCell a v).heap.size=w.heap.size:=by simp
theorem node_iv {c:Cfg} {n:S.Node} {F:Go.World} {g bc bt bp ba bo l1 u1 l2 u2 B:Nat}
  (hB:F.heap[g]?=some (.cells #[.int .i64 c.nodes,.int .i64 c.blocks,.int .i64 c.tokens,.int .i64 c.sets,.int .i64 c.ways,.int .i64 c.cap,.int .i64 c.wait,.int .i64 c.tries,.int .i64 c.policy,.int .i64 n.id,.pointer (some ⟨bc,0,none⟩),.pointer (some ⟨bt,0,none⟩),.pointer (some ⟨bp,0,none⟩),.map (some ba),.map (some bo)] 133 (0,0)))
  (hC:CacAt c n.lines bc (iv l1 u1) F) (hT:TabAt n.know bt (iv l2 u2) F) (hP:ProcAt c n.cpu bp F) (hA:MapB n.asked ba F) (hO:MapI n.told bo F)
  (hd:B≤l1/\B≤l2/\B≤g/\B≤bp/\B≤ba/\B≤bo/\(u1≤l2∨u2≤l1)/\(g < l1∨u1≤g)/\(g < l2∨u2≤g)/\(bp < l1∨u1≤bp)/\(bp < l2∨u2≤bp)/\(ba < l1∨u1≤ba)/\(ba < l2∨u2≤ba)/\(bo < l1∨u1≤bo)/\(bo < l2∨u2≤bo)/\ba≠bo):NodeAt c n g (fun x=>B≤x) F:=by
 obtain⟨bl,bct,hC⟩:=hC.parts
 obtain⟨d1,d2,d3,d4,d5,d6,d7,d8,d9,d10,d11,d12,d13,d14,d15,d16⟩:=hd
 have out:∀ {a b x:Nat},x < a∨b≤x->¬ iv a b x:=fun h q=>by have q1:=q.1;have q2:=q.2;omega
 exact node_mk (p:=⟨g,bc,bl,bct,bt,bp,ba,bo,0⟩) (G:=fun x=>B≤x) hB hC hT hP hA hO (fun x q1 q2=>by have:=q1.1;have:=q1.2;have:=q2.1;have:=q2.2;omega)
  ⟨out d8,out d9⟩ ⟨out d10,out d11⟩ ⟨out d12,out d13⟩ ⟨out d14,out d15⟩ d16 d3 (fun x q=>by have:=q.1;show B≤x;omega) (fun x q=>by have:=q.1;show B≤x;omega) d4 d5 d6
theorem mapB_new {b:Nat} {F:Go.World} (h:F.heap[b]?=some (.map #[] 0)):MapB (fun _=>false) b F:=⟨#[],0,fun _=>none,h,IM.empty,fun _=>rfl⟩
theorem mapI_new {b:Nat} {F:Go.World} (h:F.heap[b]?=some (.map #[] 0)):MapI (fun _=>0) b F:=⟨#[],0,fun _=>none,h,IM.empty,fun _=>rfl⟩
theorem blk_newE {b:Nat} (X:Go.World) (o:Obj) (h:b=X.heap.size):(X.alloc o).heap[b]?=some o:=by rw[h];exact blk_new X o
theorem Lays.blk {P:Set_->Go.World->Prop} {X F:Go.World} (hl:Lays P X F) {g:Nat} {o:Obj} (h:X.heap[g]?=some o):F.heap[g]?=some o:=blk_below h hl.2
theorem cacNew_lays (c:Cfg) (hc:1≤c.sets/\c.sets≤64/\1≤c.ways/\c.ways≤16) (X:Go.World):Calls Tryz.prog 48 #[.int .i64 c.sets,.int .i64 c.ways] X fun e w'=>∃ b,e=.returned (.pointer (some ⟨b,0,none⟩))/\Lays (CacAt c Cache.new b) X w' :=
 (cacNew_any c hc X).mono fun e w' ⟨b,he,h,hb⟩=>⟨b,he,h.keep (KS.refl (fun _=>False) _) (fun x hx hF=>⟨⟨hF,hx⟩,id⟩),hb⟩
theorem tabNew_lays (X:Go.World):Calls Tryz.prog 49 #[] X fun e w'=>∃ b,e=.returned (.pointer (some ⟨b,0,none⟩))/\Lays (TabAt Table.new b) X w' :=
 (tabNew_any X).mono fun e w' ⟨b,he,h,hb⟩=>⟨b,he,h.keep (KS.refl (fun _=>False) _) (fun x hx hF=>⟨⟨hF,hx⟩,id⟩),hb⟩
theorem procNew_lays (c:Cfg) (X:Go.World):Calls Tryz.prog 50 #[.int .i64 c.wait,.int .i64 c.tries] X fun e w'=>∃ b,e=.returned (.pointer (some ⟨b,0,none⟩))/\Lays (fun F w=>ProcAt c S.Proc.new b w/\F b) X w' :=
 (procNew_any c X).mono fun e w' ⟨he,h⟩=>⟨X.heap.size,he,⟨by rw[h];exact blk_new X _,Nat.le_refl _,by rw[h];simp⟩,by rw[h];exact below_alloc (Below.refl _ _) _⟩
theorem nodeNew_any (c:Cfg) (hc:c.check=0) (nid:Int) (h0:0≤nid) (h1:nid < c.nodes) (w:Go.World):Calls Tryz.prog 24 #[cfgV c,.int .i64 nid] w fun e w'=>∃ b',e=.returned (.tuple #[.pointer (some ⟨b',0,none⟩),.int .i64 0])/\NodeAt c (S.Node.new nid) b' (nw w) w'/\Below w.heap.size w w':=by
 obtain⟨q1,q2,q3,q4,-⟩:=check_ok hc
 have CK:=AS (show ∀ W',Calls Tryz.prog 21 _ W' _ from fun W'=>config_any c W')
 rw[hc] at CK
 have BN:=AS (blk_new w (.cells #[.int .i64 c.nodes,.int .i64 c.blocks,.int .i64 c.tokens,.int .i64 c.sets,.int .i64 c.ways,.int .i64 c.cap,.int .i64 c.wait,.int .i64 c.tries,.int .i64 c.policy] 23))
 have B0:=AS (below_alloc (Below.refl w.heap.size w) (.cells #[.int .i64 c.nodes,.int .i64 c.blocks,.int .i64 c.tokens,.int .i64 c.sets,.int .i64 c.ways,.int .i64 c.cap,.int .i64 c.wait,.int .i64 c.tries,.int .i64 c.policy] 23))
 have CA:=AS (fun X=>cacNew_lays c ⟨q1,q2,q3,q4⟩ X)
 have TA:=AS (fun X=>tabNew_lays X)
 have PA:=AS (fun X=>procNew_lays c X)
 have d0:decide (nid < 0)=false:=by simpa using h0
 have d1:decide (c.nodes≤nid)=false:=by simpa using h1
 clear q1 q2 q3 q4 hc
 simp only[cfgV] at CK ⊢
 obtain⟨e0_,e1_,e2_,e3_,e4_,e5_,e6_,e7_,e8_⟩:=(show(w.alloc (.cells #[.int .i64 c.nodes,.int .i64 c.blocks,.int .i64 c.tokens,.int .i64 c.sets,.int .i64 c.ways,.int .i64 c.cap,.int .i64 c.wait,.int .i64 c.tries,.int .i64 c.policy] 23)).cell? ⟨w.heap.size,0,none⟩=some (.int .i64 c.nodes)/\(w.alloc (.cells #[.int .i64 c.nodes,.int .i64 c.blocks,.int .i64 c.tokens,.int .i64 c.sets,.int .i64 c.ways,.int .i64 c.cap,.int .i64 c.wait,.int .i64 c.tries,.int .i64 c.policy] 23)).cell? ⟨w.heap.size,1,none⟩=some (.int .i64 c.blocks)/\(w.alloc (.cells #[.int .i64 c.nodes,.int .i64 c.blocks,.int .i64 c.tokens,.int .i64 c.sets,.int .i64 c.ways,.int .i64 c.cap,.int .i64 c.wait,.int .i64 c.tries,.int .i64 c.policy] 23)).cell? ⟨w.heap.size,2,none⟩=some (.int .i64 c.tokens)/\(w.alloc (.cells #[.int .i64 c.nodes,.int .i64 c.blocks,.int .i64 c.tokens,.int .i64 c.sets,.int .i64 c.ways,.int .i64 c.cap,.int .i64 c.wait,.int .i64 c.tries,.int .i64 c.policy] 23)).cell? ⟨w.heap.size,3,none⟩=some (.int .i64 c.sets)/\(w.alloc (.cells #[.int .i64 c.nodes,.int .i64 c.blocks,.int .i64 c.tokens,.int .i64 c.sets,.int .i64 c.ways,.int .i64 c.cap,.int .i64 c.wait,.int .i64 c.tries,.int .i64 c.policy] 23)).cell? ⟨w.heap.size,4,none⟩=some (.int .i64 c.ways)/\(w.alloc (.cells #[.int .i64 c.nodes,.int .i64 c.blocks,.int .i64 c.tokens,.int .i64 c.sets,.int .i64 c.ways,.int .i64 c.cap,.int .i64 c.wait,.int .i64 c.tries,.int .i64 c.policy] 23)).cell? ⟨w.heap.size,5,none⟩=some (.int .i64 c.cap)/\(w.alloc (.cells #[.int .i64 c.nodes,.int .i64 c.blocks,.int .i64 c.tokens,.int .i64 c.sets,.int .i64 c.ways,.int .i64 c.cap,.int .i64 c.wait,.int .i64 c.tries,.int .i64 c.policy] 23)).cell? ⟨w.heap.size,6,none⟩=some (.int .i64 c.wait)/\(w.alloc (.cells #[.int .i64 c.nodes,.int .i64 c.blocks,.int .i64 c.tokens,.int .i64 c.sets,.int .i64 c.ways,.int .i64 c.cap,.int .i64 c.wait,.int .i64 c.tries,.int .i64 c.policy] 23)).cell? ⟨w.heap.size,7,none⟩=some (.int .i64 c.tries)/\(w.alloc (.cells #[.int .i64 c.nodes,.int .i64 c.blocks,.int .i64 c.tokens,.int .i64 c.sets,.int .i64 c.ways,.int .i64 c.cap,.int .i64 c.wait,.int .i64 c.tries,.int .i64 c.policy] 23)).cell? ⟨w.heap.size,8,none⟩=some (.int .i64 c.policy) from⟨cw BN.out 0,cw BN.out 1,cw BN.out 2,cw BN.out 3,cw BN.out 4,cw BN.out 5,cw BN.out 6,cw BN.out 7,cw BN.out 8⟩)
 go_enter Tryz.func24,Tryz.ntmps24
 go_wp2_with fail
 generalize w.alloc (.cells #[.int .i64 c.nodes,.int .i64 c.blocks,.int .i64 c.tokens,.int .i64 c.sets,.int .i64 c.ways,.int .i64 c.cap,.int .i64 c.wait,.int .i64 c.tries,.int .i64 c.policy] 23)=W at BN B0 e0_ e1_ e2_ e3_ e4_ e5_ e6_ e7_ e8_ ⊢
 refine(CK.out W).mono ?_
 rintro e wB ⟨rfl,hb2⟩
 have hs0:=B0.out.size
 have BN2:=AS (blk_below BN.out hb2)
 have B2':=AS (B0.out.trans (hb2.mono hs0))
 clear hb2 CK e0_ e1_ e2_ e3_ e4_ e5_ e6_ e7_ e8_ BN B0 hs0
 have KEEP:=AS (show ∀ x,Below wB.heap.size wB x->(x.cell? ⟨w.heap.size,0,none⟩=some (.int .i64 c.nodes)/\x.cell? ⟨w.heap.size,1,none⟩=some (.int .i64 c.blocks)/\x.cell? ⟨w.heap.size,2,none⟩=some (.int .i64 c.tokens)/\x.cell? ⟨w.heap.size,3,none⟩=some (.int .i64 c.sets)/\x.cell? ⟨w.heap.size,4,none⟩=some (.int .i64 c.ways)/\x.cell? ⟨w.heap.size,5,none⟩=some (.int .i64 c.cap)/\x.cell? ⟨w.heap.size,6,none⟩=some (.int .i64 c.wait)/\x.cell? ⟨w.heap.size,7,none⟩=some (.int .i64 c.tries)/\x.cell? ⟨w.heap.size,8,none⟩=some (.int .i64 c.policy)) from fun x hx=>by have h11:=blk_below BN2.out hx;exact⟨cw h11 0,cw h11 1,cw h11 2,cw h11 3,cw h11 4,cw h11 5,cw h11 6,cw h11 7,cw h11 8⟩)
 obtain⟨e0_,e1_,e2_,e3_,e4_,e5_,e6_,e7_,e8_⟩:=KEEP.out wB (Below.refl _ _)
 have hmm:=@run_makeMap Tryz.prog
 go_upto_region 5 with fail
 go_region_held3 (fun x=>x.cell? ⟨w.heap.size,0,none⟩=some (.int .i64 c.nodes)/\x.cell? ⟨w.heap.size,1,none⟩=some (.int .i64 c.blocks)/\x.cell? ⟨w.heap.size,2,none⟩=some (.int .i64 c.tokens)/\x.cell? ⟨w.heap.size,3,none⟩=some (.int .i64 c.sets)/\x.cell? ⟨w.heap.size,4,none⟩=some (.int .i64 c.ways)/\x.cell? ⟨w.heap.size,5,none⟩=some (.int .i64 c.cap)/\x.cell? ⟨w.heap.size,6,none⟩=some (.int .i64 c.wait)/\x.cell? ⟨w.heap.size,7,none⟩=some (.int .i64 c.tries)/\x.cell? ⟨w.heap.size,8,none⟩=some (.int .i64 c.policy)) ((refine KEEP.out _ ?_;(repeat (with_reducible first | exact Below.refl _ _ | apply below_alloc | apply Below.drew | refine Lays.chain HP.out ?_ | refine Lays.chain HT.out ?_ | refine Lays.chain HC.out ?_)))) ((first | (go_at_call 48;refine(CA.out _).mono ?_;rintro e w1 ⟨bc,rfl,hC⟩;have HC:=AS hC;clear hC) | (go_at_call 49;refine(TA.out _).mono ?_;rintro e w2 ⟨bt,rfl,hT⟩;have HT:=AS hT;clear hT) | (go_at_call 50;refine(PA.out _).mono ?_;rintro e w3 ⟨bp,rfl,hP⟩;have HP:=AS hP;clear hP)))
 all_goals
  go_wp2
  (first | (refine bodyPost_ret (v:=.tuple #[.pointer (some ⟨w3.heap.size,0,none⟩),.int .i64 0]) ?_ rfl ?_;(focus (simp[results,Tryz.results24,go_sem];done))) | (refine bodyPost_ret (v:=.tuple #[.pointer (some ⟨(w3.alloc (.map #[] 0)).heap.size,0,none⟩),.int .i64 0]) ?_ rfl ?_;(focus (simp[results,Tryz.results24,go_sem];done))) | (refine bodyPost_ret (v:=.tuple #[.pointer (some ⟨((w3.alloc (.map #[] 0)).alloc (.map #[] 0)).heap.size,0,none⟩),.int .i64 0]) ?_ rfl ?_;(focus (simp[results,Tryz.results24,go_sem];done))))
  have s0:=B2'.out.size
  have s1:=HC.out.size
  have s2:=HT.out.size
  have s3:=HP.out.size
  have s4:=HP.out.1.2
  refine⟨_,rfl,node_iv (bc:=bc) (bt:=bt) (bp:=bp) (n:=S.Node.new nid) (B:=w.heap.size) (blk_new _ _) (HC.out.1.keep (KS.below (fun _=>False) (w':=World.alloc _ _) ?_) (fun x _ hF=>⟨hF,id⟩)) (HT.out.1.keep (KS.below (fun _=>False) (w':=World.alloc _ _) ?_) (fun x _ hF=>⟨hF,id⟩)) (blk_below HP.out.1.1 ?_) (mapB_new ?_) (mapI_new ?_) ?_,B2'.out.trans (Below.mono (B:=wB.heap.size) ?_ s0)⟩
  ·(repeat (with_reducible first | exact Below.refl _ _ | apply below_alloc | apply Below.drew | refine Lays.chain HP.out ?_ | refine Lays.chain HT.out ?_ | refine Lays.chain HC.out ?_))
  ·(repeat (with_reducible first | exact Below.refl _ _ | apply below_alloc | apply Below.drew | refine Lays.chain HP.out ?_ | refine Lays.chain HT.out ?_ | refine Lays.chain HC.out ?_))
  ·(repeat (with_reducible first | exact Below.refl _ _ | apply below_alloc | apply Below.drew | refine Lays.chain HP.out ?_ | refine Lays.chain HT.out ?_ | refine Lays.chain HC.out ?_))
  ·(repeat (first | (with_reducible refine blk_newE _ _ ?_;(focus (simp only[World.size_alloc,World.size_drew];done))) | with_reducible refine blk_alloc ?_ _ | with_reducible refine blk_drew ?_ | with_reducible refine Lays.blk HP.out ?_ | with_reducible refine Lays.blk HT.out ?_ | with_reducible refine Lays.blk HC.out ?_))
  ·(repeat (first | (with_reducible refine blk_newE _ _ ?_;(focus (simp only[World.size_alloc,World.size_drew];done))) | with_reducible refine blk_alloc ?_ _ | with_reducible refine blk_drew ?_ | with_reducible refine Lays.blk HP.out ?_ | with_reducible refine Lays.blk HT.out ?_ | with_reducible refine Lays.blk HC.out ?_))
  ·simp only[iv,sz_alloc,sz_drew] at s0 s1 s2 s3 s4 ⊢;omega
  ·(repeat (with_reducible first | exact Below.refl _ _ | apply below_alloc | apply Below.drew | refine Lays.chain HP.out ?_ | refine Lays.chain HT.out ?_ | refine Lays.chain HC.out ?_))
end Go.Proofs.YtiebppkhaiofeaaGreat.K
