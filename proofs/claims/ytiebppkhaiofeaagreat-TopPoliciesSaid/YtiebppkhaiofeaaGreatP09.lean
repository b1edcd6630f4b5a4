/- Part of the proof of TopPolicies: what functions of the program do. -/
import Derived.Test.YtiebppkhaiofeaaGreatP08
import Derived.Test.YtiebppkhaiofeaaGreatP00
set_option maxHeartbeats 4000000
set_option maxRecDepth 100000
set_option linter.unusedVariables false
set_option linter.unusedSimpArgs false
open Go.IntKind renaming i64→I
open Go.Value renaming slice→J, int→V, bool→aA, pointer→bA
open Option renaming some→M, none→U
open Go.Obj renaming cells→O
open Go renaming Calls→bB, World→cA, bodyPost_ret→yA
open List renaming getD_eq_getElem?_getD→cB, getElem?_eq_getElem→dB, mem_cons_of_mem→kB, mem_singleton→tA, replicate→uA, mem_cons_self→wA, length_append→xA
open Go.Proofs.Tryz renaming prog→dA
open Go.Proofs.YtiebppkhaiofeaaGreatW.PrintWords renaming below_alloc→eA, blk_lt→eB, blk_drew→fB, blk_below→kA, blk_alloc→lA, blk_set→mA, blk_new→nA, blk_cell→oB
open Go.RowKit.Below renaming refl→fA, drew→iA, setCell→oA
open Nat renaming le_trans→lB, le_refl→pA
open Go.Proofs.YtiebppkhaiofeaaGreat.K.KS renaming below→pB, refl→qB
open And renaming intro→qA
open Go.World renaming size_alloc→rA
namespace Go.Proofs.YtiebppkhaiofeaaGreat.S
open Go.RowKit (wrap64)
def Dst (c:Cfg) (ls:List Let):Prop:=∀ l∈ls,0≤l.dst/\l.dst≤c.nodes
theorem Dst.nil (c:Cfg):Dst c []:=fun _ h=>by cases h
theorem Dst.app {c:Cfg} {a b:List Let} (h:Dst c a) (k:Dst c b):Dst c (a ++ b):=fun l hl=>(List.mem_append.1 hl).elim (h l) (k l)
theorem Dst.one {c:Cfg} {l:Let} (h:0≤l.dst/\l.dst≤c.nodes):Dst c [l]:=fun x hx=>by
 simp only[tA] at hx;rw[hx];exact h
structure NOk (c:Cfg) (n:Node) (m:Int):Prop where
 cac:CInv c n.lines
 cnt:∀ b,0≤(n.lines.tok b).count/\(n.lines.tok b).count≤m
 act:∀ b a,n.know.act b=M a->0≤a.node/\a.node < c.nodes
structure OOk (c:Cfg) (o:Out) (k j:Nat):Prop where
 dst:Dst c o.letters
 len:o.letters.length≤k
 don:o.done.length≤j
theorem NOk.mono {c:Cfg} {n:Node} {m m':Int} (h:NOk c n m) (hm:m≤m'):NOk c n m':=⟨h.cac,fun b=>⟨(h.cnt b).1,Int.le_trans (h.cnt b).2 hm⟩,h.act⟩
theorem NOk.of {c:Cfg} {n n':Node} {m:Int} (h:NOk c n m) (hl:n'.lines=n.lines) (hk:n'.know=n.know):NOk c n' m:=⟨hl ▸ h.cac,hl ▸ h.cnt,hk ▸ h.act⟩
theorem OOk.none (c:Cfg):OOk c out0 0 0:=⟨Dst.nil c,pA _,pA _⟩
theorem OOk.mono {c:Cfg} {o:Out} {k j k' j':Nat} (h:OOk c o k j) (hk:k≤k') (hj:j≤j'):OOk c o k' j':=⟨h.dst,lB h.len hk,lB h.don hj⟩
theorem OOk.send {c:Cfg} {o:Out} {k j:Nat} (h:OOk c o k j) {l:Let} (hl:0≤l.dst/\l.dst≤c.nodes):OOk c (o.send l) (k+1) j :=
 ⟨h.dst.app (Dst.one hl),by have:=h.len;simp[Out.send];omega,h.don⟩
section
variable {c:Cfg} {n:Node} {m:Int} {o:Out} {k j:Nat}
theorem targets_in (s:Int) (d:Drw) (hn:0≤c.nodes):(targets c s d).length≤65/\∀ t∈targets c s d,0≤t/\t≤c.nodes:=by
 unfold targets
 split
 ·exact⟨zB,fun t ht=>by simp at ht⟩
 ·refine⟨lB (List.length_filter_le _ _) (by simp;omega),fun t ht=>?_⟩
  obtain⟨i,hi,rfl⟩:=List.mem_map.1 (List.mem_filter.1 ht).1
  have:=List.mem_range.1 hi
  omega
theorem end_ok (hc:0≤c.nodes) (b:Int) (h:OOk c o k j):(n.end_ c b o).1.lines=n.lines/\(n.end_ c b o).1.know=n.know/\OOk c (n.end_ c b o).2 (k+1) j:=by
 unfold Node.end_
 cases n.own b with
 | none=>exact⟨rfl,rfl,h.mono vB (pA _)⟩
 | some a =>
  by_cases q:a.seq≤n.told b
  ·simp only[if_pos q];exact⟨trivial,trivial,h.mono vB (pA _)⟩
  ·simp only[if_neg q];exact⟨trivial,trivial,h.send ⟨hc,Int.le_refl _⟩⟩
theorem doOp_count (op:Op) (h:Bun) (t:Int):(doOp op h t).1.count=h.count:=by
 unfold doOp
 split
 ·rfl
 ·split <;> rfl
theorem settle_ok (hc:0≤c.nodes) (hn:NOk c n m) (h:OOk c o k j):NOk c (n.settle c o).1 m/\OOk c (n.settle c o).2 (k+1) (j+1)/\(n.settle c o).1.know=n.know:=by
 unfold Node.settle
 split
 ·exact⟨hn,h.mono vB vB,rfl⟩
 ·simp only
  obtain⟨e1,e2,e3⟩:=doIt_eq hn.cac n.cpu.op
  split
  ·exact⟨hn,h.mono vB vB,rfl⟩
  ·generalize n.lines.doIt c n.cpu.op=r at *
   obtain⟨k1,k2,k3⟩:=end_ok (n:={ n with lines:=r.1,cpu:=n.cpu.finish.1 }) (o:={ o with done:=o.done ++ [(⟨n.id,n.cpu.finish.2.1,n.cpu.op,r.2.1,0⟩:Done)]}) (j:=j+1) hc n.cpu.op.block ⟨h.dst,h.len,by have:=h.don;simp;omega⟩
   refine⟨⟨by rw[k1];exact e1,fun b=>?_,by rw[k2];exact hn.act⟩,k3,k2⟩
   rw[k1]
   show 0≤(r.1.tok b).count/\(r.1.tok b).count≤m
   rw[e3]
   split
   ·by_cases q:b=n.cpu.op.block
    ·simp only[upd,if_pos q,doOp_count];exact hn.cnt _
    ·simp only[upd,if_neg q];exact hn.cnt _
   ·exact hn.cnt _
theorem ask_ok (hc:0≤c.nodes) (op:Op) (d:Drw) (h:OOk c o k j):OOk c (n.ask c op d o) (k+65) j:=by
 obtain⟨t1,t2⟩:=targets_in (c:=c) n.id d hc
 refine⟨h.dst.app fun l hl=>?_,by have:=h.len;simp[Node.ask];omega,h.don⟩
 obtain⟨t,ht,rfl⟩:=List.mem_map.1 hl
 exact t2 t ht
theorem issue_ok (hc:0≤c.nodes) (hn:NOk c n m) (op:Op) (d:Drw):NOk c (n.issue c op d).1 m/\OOk c (n.issue c op d).2.1 67 2:=by
 unfold Node.issue
 split
 ·exact⟨hn,(OOk.none c).mono vB vB⟩
 ·simp only
  split
  ·exact⟨hn,(OOk.none c).mono vB vB⟩
  ·obtain⟨s1,s2,-⟩:=settle_ok (n:={ n with cpu:=(n.cpu.issue c op).1 }) (m:=m) hc (hn.of rfl rfl) (OOk.none c)
   refine⟨s1,?_⟩
   simp only
   split
   ·exact(ask_ok hc op d s2).mono vB vB
   ·exact s2.mono vB vB
theorem tick_ok (hc:0≤c.nodes) (hn:NOk c n m) (d:Drw):NOk c (n.tick c d).1 m/\OOk c (n.tick c d).2 67 2:=by
 unfold Node.tick
 simp only
 split
 ·exact⟨hn.of rfl rfl,(ask_ok hc _ d (OOk.none c)).mono vB vB⟩
 ·split
  ·split
   ·exact⟨hn.of rfl rfl,(OOk.none c).mono vB vB⟩
   ·exact⟨hn.of rfl rfl,((OOk.none c).send ⟨hc,Int.le_refl _⟩).mono vB vB⟩
  ·exact⟨hn.of rfl rfl,(OOk.none c).mono vB vB⟩
theorem check_row {l:Let} (h:l.check c=0):0≤l.block/\l.block < c.blocks/\endOk c l.src (rowsK l.kind).fromHome (rowsK l.kind).fromNode=true/\endOk c l.dst (rowsK l.kind).toHome (rowsK l.kind).toNode=true/\formOk c l (rowsK l.kind)=true/\((rowsK l.kind).tokens=true->l.bun.check c.tokens=0/\0 < l.bun.count):=by
 unfold Let.check at h
 split at h
 ·exact absurd h yB
 split at h
 ·exact absurd h yB
 rename_i q
 split at h
 ·exact absurd h yB
 rename_i q2
 split at h
 ·exact absurd h yB
 rename_i q3
 simp only[not_or,Bool.not_eq_false] at q2 q3
 refine⟨vB,vB,q2.2.1,q2.2.2,q3,fun ht=>?_⟩
 rw[if_neg (by simp[ht])] at h
 split at h
 ·rename_i q4
  rcases q4 with q4 | q4
  ·exact absurd h q4
  ·exact⟨h,q4⟩
 ·exact absurd h yB
theorem end_in {a:Int} {x y:Bool} (hc:0≤c.nodes) (h:endOk c a x y=true):0≤a/\a≤c.nodes/\(x=false->a < c.nodes):=by
 unfold endOk at h
 simp only[Bool.or_eq_true,Bool.and_eq_true,beq_iff_eq,decide_eq_true_eq] at h
 rcases h with ⟨h1,h2⟩ | ⟨⟨h1,h2⟩,h3⟩
 ·exact⟨vB,vB,fun q=>by rw[q] at h1;cases h1⟩
 ·exact⟨h2,vB,fun _=>h3⟩
theorem bun_check {b:Bun} {t:Int} (h:b.check t=0):0≤b.count/\b.count≤t:=by
 unfold Bun.check at h
 split at h
 ·exact absurd h yB
 ·omega
theorem split_ok (hn:NOk c n m) (hm:m < 9223372036854775807) (b:Int) (x:Int) (y z:Bool):NOk c { n with lines:=(n.lines.take c b x y z).1 } m:=by
 obtain⟨e1,e2,e3⟩:=take_eq hn.cac b x y z
 refine⟨e1,fun b'=>?_,hn.act⟩
 show 0≤((n.lines.take c b x y z).1.tok b').count/\((n.lines.take c b x y z).1.tok b').count≤m
 rw[e3]
 have h0:=hn.cnt b
 by_cases q:b'=b
 ·simp only[upd,if_pos q]
  have:=split_count (h:=n.lines.tok b) h0.1 vB x y z
  split
  ·omega
  ·rw[b0_count];omega
 ·simp only[upd,if_neg q];exact hn.cnt _
theorem absorb_ok (hn:NOk c n m) (hm0:0≤m) (hm:m < 4611686018427387904) {b:Int} (hb:0≤b) {t:Bun} (ht:1≤t.count/\t.count≤65536) (p:Int):NOk c { n with lines:=(n.lines.absorb c b t p).1 } (m+65536):=by
 obtain⟨e1,e2⟩:=absorb_eq hn.cac hb ht.1 p
 refine⟨e1,fun b'=>?_,hn.act⟩
 show 0≤((n.lines.absorb c b t p).1.tok b').count/\((n.lines.absorb c b t p).1.tok b').count≤m+65536
 have hb':=hn.cnt b'
 have hb2:=hn.cnt b
 rcases e2 with ⟨q,-⟩ | ⟨q,-⟩ | ⟨x,-,-,-,-,-,q,-⟩ | ⟨q,-⟩
 ·rw[q]
  by_cases e:b'=b
  ·simp only[upd,if_pos e,join,valued_count]
   rw[wrap_id vB vB];omega
  ·simp only[upd,if_neg e];omega
 ·rw[q]
  by_cases e:b'=b
  ·simp only[upd,if_pos e];omega
  ·simp only[upd,if_neg e];omega
 ·rw[q]
  by_cases e:b'=b
  ·simp only[upd,if_pos e];omega
  ·simp only[upd,if_neg e]
   by_cases e':b'=x
   ·simp only[if_pos e',b0_count];omega
   ·simp only[if_neg e'];omega
 ·rw[q];omega
theorem own_in (hn:NOk c n m) {b:Int} {to_:Int} (h:n.other b=M to_):0≤to_/\to_ < c.nodes:=by
 unfold Node.other at h
 split at h
 ·rename_i a ha
  split at h
  ·cases h
  ·injection h with h;rw[<- h];exact hn.act b a ha
 ·cases h
theorem ntake_ok (hc:c.check=0) (hn:NOk c n m) (hm0:0≤m) (hm:m < 4611686018427387904) (l:Let) (d:Drw):NOk c (n.take c l d).1 (m+65536)/\OOk c (n.take c l d).2 67 2:=by
 obtain⟨-,-,-,-,-,-,-,-,-,-,-,-,hn1,hn2,hb1,hb2,ht1,ht2⟩:=check_ok hc
 have h0:0≤c.nodes:=vB
 have hno:OOk c out0 67 2:=(OOk.none c).mono vB vB
 unfold Node.take
 split
 ·exact⟨hn.mono vB,hno⟩
 rename_i hck
 have hck:l.check c=0:=by simpa using (not_or.1 hck).1
 obtain⟨r1,r2,r3,r4,r5,r6⟩:=check_row hck
 split
 ·rename_i k1
  rw[k1] at r3 r4 r5 r6
  have hbn:=r6 rfl
  have hbc:=bun_check hbn.1
  unfold Node.tokens
  split
  ·rename_i to_ hto
   have:=own_in hn hto
   exact⟨hn.mono vB,((OOk.none c).send (l:=tokensL n.id to_ l.block l.bun) ⟨this.1,by show to_≤_;omega⟩).mono vB vB⟩
  ·simp only
   have hA:=absorb_ok hn hm0 hm r1 (t:=l.bun) ⟨vB,vB⟩ n.cpu.pinned
   split
   ·rename_i g hg
    have:=settle_ok h0 hA ((OOk.none c).send (l:=tokensL n.id c.nodes g.block g.bun) ⟨h0,Int.le_refl _⟩)
    exact⟨this.1,this.2.1.mono vB vB⟩
   ·have:=settle_ok h0 hA (OOk.none c)
    exact⟨this.1,this.2.1.mono vB vB⟩
 split
 ·rename_i k2
  rw[k2] at r3 r4 r5 r6
  have hs:=end_in h0 r3
  unfold Node.asks
  split
  ·exact⟨hn.mono vB,hno⟩
  ·simp only
   refine⟨(split_ok hn vB _ _ _ _).mono vB,?_⟩
   split
   ·exact((OOk.none c).send ⟨hs.1,hs.2.1⟩).mono vB vB
   ·exact hno
 split
 ·rename_i k4
  rw[k4] at r3 r4 r5 r6
  have hwho:0≤l.who/\l.who < c.nodes:=by
   unfold formOk at r5
   simp only[Bool.and_eq_true] at r5
   have:=r5.1.2
   have e:(rowsK 4).who=true:=rfl
   rw[e] at this
   simp only[Bool.true_and,Bool.not_true,Bool.false_and,Bool.or_false] at this
   have:=end_in h0 this
   exact⟨this.1,this.2.2 rfl⟩
  have hact:NOk c { n with know:=(n.know.activate ⟨l.block,l.who,l.seq⟩).1 } m:=by
   refine⟨hn.cac,hn.cnt,fun b a ha=>?_⟩
   have ha':(n.know.activate ⟨l.block,l.who,l.seq⟩).1.act b=M a:=ha
   unfold Table.activate at ha'
   split at ha'
   ·exact hn.act b a ha'
   ·by_cases q:b=l.block
    ·simp only[upd,if_pos q] at ha'
     injection ha' with ha'
     rw[<- ha'];exact hwho
    ·simp only[upd,if_neg q] at ha'
     exact hn.act b a ha'
  unfold Node.activate
  simp only
  split
  ·exact⟨hn.mono vB,hno⟩
  ·split
   ·split
    ·have:=end_ok (n:={ n with know:=(n.know.activate ⟨l.block,l.who,l.seq⟩).1 }) h0 l.block (OOk.none c)
     exact⟨(hact.of this.1 this.2.1).mono vB,this.2.2.mono vB vB⟩
    ·exact⟨hact.mono vB,hno⟩
   ·refine⟨(split_ok hact vB _ _ _ _).mono vB,?_⟩
    simp only
    split
    ·exact((OOk.none c).send (l:=tokensL n.id l.who l.block _) ⟨hwho.1,by show l.who≤_;omega⟩).mono vB vB
    ·exact hno
 split
 ·unfold Node.deactivate
  refine⟨⟨hn.cac,fun b=>⟨(hn.cnt b).1,Int.le_trans (hn.cnt b).2 vB⟩,fun b a ha=>?_⟩,((OOk.none c).send ⟨h0,Int.le_refl _⟩).mono vB vB⟩
  exact hn.act b a (act_deact n.know l.block l.seq b a ha).1
 ·exact⟨hn.mono vB,hno⟩
end
structure ROk (c:Cfg) (r:ARow) (m:Int):Prop where
 len:(r.queue.length:Int)≤m
 mem:∀ x∈r.queue,0≤x/\x < c.nodes
 act:r.on=true->0≤r.active.node/\r.active.node < c.nodes
def AOk (c:Cfg) (a:Arb) (m:Int):Prop:=∀ r∈a.rows,ROk c r m
section
variable {c:Cfg} {a:Arb} {m:Int}
theorem ROk.mono {r:ARow} {m':Int} (h:ROk c r m) (hm:m≤m'):ROk c r m':=⟨Int.le_trans h.len hm,h.mem,h.act⟩
theorem AOk.mono {m':Int} (h:AOk c a m) (hm:m≤m'):AOk c a m':=fun r hr=>(h r hr).mono hm
theorem rok_zero (hm:0≤m):ROk c ar0 m:=⟨hm,(fun x hx=>by cases hx),(fun h=>by cases h)⟩
theorem AOk.row (h:AOk c a m) (hm:0≤m) (b:Int):ROk c (a.row b) m:=by
 unfold Arb.row
 rw[cB]
 cases q:a.rows[b.toNat]? with
 | none=>exact rok_zero hm
 | some r=>exact h r (List.mem_of_getElem? q)
theorem AOk.setRow (h:AOk c a m) (b:Int) {r:ARow} (hr:ROk c r m):AOk c (a.setRow b r) m:=fun x hx=>by
 rcases List.mem_or_eq_of_mem_set hx with q | q
 ·exact h x q
 ·rw[q];exact hr
theorem next_ok (h:AOk c a m) (hm:0≤m) (b:Int):AOk c (a.next b).1 m/\∀ x,(a.next b).2=M x->0≤x.node/\x.node < c.nodes:=by
 have hr:=h.row hm b
 unfold Arb.next
 simp only
 split
 ·exact⟨h,fun x hx=>by cases hx⟩
 ·split
  ·exact⟨h,fun x hx=>by cases hx⟩
  ·rename_i n q hq
   have hn:=hr.mem n (by rw[hq];exact wA)
   refine⟨h.setRow b ⟨?_,fun x hx=>hr.mem x (by rw[hq];exact kB _ hx),fun _=>hn⟩,fun x hx=>?_⟩
   ·have:=hr.len;rw[hq] at this;simp at this ⊢;omega
   ·injection hx with hx;rw[<- hx];exact hn
theorem tokens_dst (hc:0≤c.nodes) {to_:Int} (h:0≤to_/\to_≤c.nodes) (b:Int) (t:Bun):Dst c (Home.tokens c to_ b t)/\(Home.tokens c to_ b t).length≤1:=by
 unfold Home.tokens
 split
 ·exact⟨Dst.nil c,zB⟩
 ·exact⟨Dst.one h,zB⟩
theorem spread_dst (hc:0≤c.nodes) (k s b q w:Int):Dst c (spread k s b q w c.nodes)/\(spread k s b q w c.nodes).length≤64:=by
 unfold spread
 refine⟨fun l hl=>?_,by simp;omega⟩
 obtain⟨i,hi,rfl⟩:=List.mem_map.1 hl
 have:=List.mem_range.1 hi
 show 0≤(i:Int)/\(i:Int)≤c.nodes
 omega
theorem memTake_queue (h:Home) (b n:Int) (x y:Bool):(h.memTake b n x y).1.queue=h.queue:=by unfold Home.memTake;split <;> rfl
theorem begin_ok (hc:0≤c.nodes) (hm:Home) {r:Arb×Option Act} (h:AOk c r.1 m) (hr:∀ x,r.2=M x->0≤x.node/\x.node < c.nodes):AOk c (hm.begin_ c r).1.queue m/\Dst c (hm.begin_ c r).2/\(hm.begin_ c r).2.length≤65:=by
 unfold Home.begin_
 split
 ·exact⟨h,Dst.nil c,zB⟩
 ·rename_i a ha
  have:=hr a ha
  have hs:=spread_dst hc 4 c.nodes a.block a.seq a.node
  have ht:=tokens_dst (c:=c) hc (to_:=a.node) ⟨this.1,vB⟩ a.block (({ hm with queue:=r.1 }:Home).memTake a.block (hm.get a.block).count true true).2
  simp only[memTake_queue]
  exact⟨h,hs.1.app ht.1,by rw[xA];omega⟩
theorem htake_ok (hc:0≤c.nodes) {h:Home} (hA:AOk c h.queue m) (hm:0≤m) (hq:h.queue.nodes=c.nodes) (l:Let) (d:Drw):AOk c (h.take c l d).1.queue (m+1)/\Dst c (h.take c l d).2/\(h.take c l d).2.length≤65:=by
 have hA1:AOk c h.queue (m+1):=hA.mono vB
 have hno:AOk c h.queue (m+1)/\Dst c []/\([]:List Let).length≤65:=⟨hA1,Dst.nil c,zB⟩
 unfold Home.take
 split
 ·exact hno
 rename_i hck
 have hck:l.check c=0:=by simpa using (not_or.1 hck).1
 obtain⟨r1,r2,r3,r4,r5,r6⟩:=check_row hck
 have hsrc:=end_in hc r3
 split
 ·split
  ·rename_i a ha
   have hn:0≤a.node/\a.node < c.nodes:=by
    unfold Arb.current at ha
    split at ha
    ·cases ha
    ·rename_i q
     injection ha with ha
     rw[<- ha]
     exact(hA.row hm l.block).act (by simp only[not_or] at q;simpa using q.2.2)
   have ht:=tokens_dst (c:=c) hc (to_:=a.node) ⟨hn.1,vB⟩ l.block l.bun
   exact⟨hA1,ht.1,lB ht.2 vB⟩
  ·have:(h.put l.block l.bun).queue=h.queue:=by unfold Home.put;split <;> rfl
   simp only[this]
   exact hno
 split
 ·simp only[memTake_queue]
  have ht:=tokens_dst (c:=c) hc (to_:=l.src) ⟨hsrc.1,hsrc.2.1⟩ l.block (h.memTake l.block (reply c.policy (h.get l.block) l.write d).1 (reply c.policy (h.get l.block) l.write d).2.1 (reply c.policy (h.get l.block) l.write d).2.2).2
  exact⟨hA1,ht.1,lB ht.2 vB⟩
 split
 ·refine begin_ok hc h ?_ ?_
  ·unfold Arb.ask
   split
   ·rename_i his
    have hr:=hA.row hm l.block
    have hs:0≤l.src/\l.src < c.nodes:=by
     unfold Arb.is at his
     rw[hq] at his
     simp only[Bool.and_eq_true,decide_eq_true_eq] at his
     omega
    exact(next_ok (hA1.setRow l.block (r:={ h.queue.row l.block with queue:=(h.queue.row l.block).queue ++ [l.src]}) ⟨by have:=hr.len;simp;omega,fun x hx=>(List.mem_append.1 hx).elim (hr.mem x) (fun q=>by simp at q;rw[q];exact hs),hr.act⟩) vB l.block).1
   ·exact hA1
  ·intro x hx
   unfold Arb.ask at hx
   split at hx
   ·rename_i his
    have hr:=hA.row hm l.block
    have hs:0≤l.src/\l.src < c.nodes:=by
     unfold Arb.is at his
     rw[hq] at his
     simp only[Bool.and_eq_true,decide_eq_true_eq] at his
     omega
    exact(next_ok (hA1.setRow l.block (r:={ h.queue.row l.block with queue:=(h.queue.row l.block).queue ++ [l.src]}) ⟨by have:=hr.len;simp;omega,fun x hx=>(List.mem_append.1 hx).elim (hr.mem x) (fun q=>by simp at q;rw[q];exact hs),hr.act⟩) vB l.block).2 x hx
   ·cases hx
 split
 ·unfold Arb.done
  split
  ·simp only
   exact⟨hA1,Dst.nil c,zB⟩
  ·split
   ·simp only
    exact⟨hA1,Dst.nil c,zB⟩
   ·simp only[if_true]
    have hr:=(hA1.row vB l.block)
    have hs:=spread_dst hc 6 c.nodes l.block l.seq 0
    exact⟨hA1.setRow l.block ⟨hr.len,hr.mem,fun q=>by cases q⟩,hs.1,vB⟩
 split
 ·have hr:=(hA1.row vB l.block)
  refine begin_ok hc h ?_ ?_
  ·unfold Arb.ack
   split
   ·exact hA1
   ·split
    ·exact hA1
    ·simp only
     split
     ·exact hA1.setRow l.block ⟨hr.len,hr.mem,hr.act⟩
     ·exact(next_ok (hA1.setRow l.block (r:={ h.queue.row l.block with knows:=(h.queue.row l.block).knows.set l.src.toNat true,ending:=false }) ⟨hr.len,hr.mem,hr.act⟩) vB l.block).1
  ·intro x hx
   unfold Arb.ack at hx
   split at hx
   ·cases hx
   ·split at hx
    ·cases hx
    ·simp only at hx
     split at hx
     ·cases hx
     ·exact(next_ok (hA1.setRow l.block (r:={ h.queue.row l.block with knows:=(h.queue.row l.block).knows.set l.src.toNat true,ending:=false }) ⟨hr.len,hr.mem,hr.act⟩) vB l.block).2 x hx
 ·exact hno
end
structure WOk (c:Cfg) (w:World):Prop where
 t:TInv c w
 node:∀ n∈w.nodes,NOk c n (65536 * w.steps)
 arb:AOk c w.home.queue w.steps
 dst:Dst c w.way
 room:(w.way.length:Int)≤c.cap
theorem wok_new {c:Cfg} (hc:c.check=0):WOk c (World.new c):=by
 obtain⟨-,-,q1,-,q2,-,-,-,-,-,-,-,hn1,hn2,hb1,hb2,ht1,ht2⟩:=check_ok hc
 refine⟨tinv_new hc,fun n hn=>?_,fun r hr=>?_,Dst.nil c,by show(0:Int)≤_;omega⟩
 ·obtain⟨i,-,rfl⟩:=List.mem_map.1 hn
  exact⟨cinv_new q1,fun b=>⟨Int.le_refl _,Int.le_refl _⟩,fun b a ha=>by cases ha⟩
 ·have hr':r∈uA (min (max c.blocks 0) 64).toNat ar0:=hr
  rw[(List.mem_replicate.1 hr').2]
  exact rok_zero (Int.le_refl _)
section
variable {c:Cfg} {w:World}
theorem nok_new (c:Cfg) (h:1≤c.ways) (i:Int) {m:Int} (hm:0≤m):NOk c (Node.new i) m:=⟨cinv_new h,fun b=>⟨Int.le_refl _,hm⟩,fun b a ha=>by cases ha⟩
theorem WOk.get (h:WOk c w) (hw:1≤c.ways) (i:Int):NOk c (w.node i) (65536 * w.steps):=by
 unfold World.node
 rw[cB]
 cases q:w.nodes[i.toNat]? with
 | none=>exact nok_new c hw i (by have:=h.t.st;omega)
 | some n=>exact h.node n (List.mem_of_getElem? q)
structure ActOk (c:Cfg) (w:World) (r:Bool×World×List Let×List Done):Prop where
 node:∀ n∈r.2.1.nodes,NOk c n (65536 * (w.steps+1))
 arb:AOk c r.2.1.home.queue (w.steps+1)
 dst:Dst c r.2.1.way
 room:r.2.1.way.length≤w.way.length
 out:Dst c r.2.2.1
 len:r.2.2.1.length≤67 * 64
 don:r.2.2.2.length≤2 * 64
theorem nodes_set_ok {m m':Int} {i:Nat} {n':Node} (h:∀ n∈w.nodes,NOk c n m) (hm:m≤m') (hn:NOk c n' m'):∀ n∈w.nodes.set i n',NOk c n m':=fun n hx=>by
 rcases List.mem_or_eq_of_mem_set hx with q | q
 ·exact(h n q).mono hm
 ·rw[q];exact hn
theorem acts_ok (hc:c.check=0) (h:WOk c w) (hst:w.steps < 35184372088832) (e:Ent):ActOk c w (({ w with steps:=w.steps+1 }:World).acts c e):=by
 obtain⟨-,-,q1,-,q2,-,-,-,-,-,-,-,hn1,hn2,hb1,hb2,ht1,ht2⟩:=check_ok hc
 have h0:=h.t.st
 have hN0:∀ n∈w.nodes,NOk c n (65536 * (w.steps+1)):=fun n hn=>(h.node n hn).mono vB
 have hA0:AOk c w.home.queue (w.steps+1):=h.arb.mono vB
 have hno:∀ (b:Bool) (t:Int) (s:Int),ActOk c w (b,({ steps:=s,ticks:=t,nodes:=w.nodes,home:=w.home,way:=w.way }:World),[],[]):=fun b t s=>⟨hN0,hA0,h.dst,pA _,Dst.nil c,zB,zB⟩
 have hers:∀ i,Dst c (w.way.eraseIdx i)/\(w.way.eraseIdx i).length≤w.way.length:=fun i=>⟨fun l hl=>h.dst l (List.mem_of_mem_eraseIdx hl),List.length_eraseIdx_le _ _⟩
 unfold World.acts
 split
 ·have:=issue_ok vB (h.get q1 e.a) e.op ⟨0,0,0⟩
  exact⟨nodes_set_ok h.node vB (this.1.mono vB),hA0,h.dst,pA _,this.2.dst,lB this.2.len vB,lB this.2.don vB⟩
 split
 ·split
  ·simp only
   split
   ·have:=htake_ok (c:=c) vB h.arb h0 h.t.qn (w.way.getD e.a.toNat let0) ⟨e.b,e.c,e.d⟩
    exact⟨hN0,this.1,(hers _).1,(hers _).2,this.2.1,lB this.2.2 vB,zB⟩
   ·have:=ntake_ok hc (h.get q1 (w.way.getD e.a.toNat let0).dst) vB vB (w.way.getD e.a.toNat let0) ⟨e.b,e.c,e.d⟩
    exact⟨nodes_set_ok h.node vB (this.1.mono vB),hA0,(hers _).1,(hers _).2,this.2.dst,lB this.2.len vB,lB this.2.don vB⟩
  ·exact hno _ _ _
 split
 ·split
  ·exact⟨hN0,hA0,(hers _).1,(hers _).2,Dst.nil c,zB,zB⟩
  ·exact hno _ _ _
 ·simp only
  have hk:∀ n∈w.nodes,NOk c (n.tick c ⟨e.b,e.c,e.d⟩).1 (65536 * w.steps)/\OOk c (n.tick c ⟨e.b,e.c,e.d⟩).2 67 2:=fun n hn=>tick_ok vB (h.node n hn) _
  have hl:w.nodes.length≤64:=by rw[h.t.len];omega
  have hb:∀ (ns:List Node),(∀ n∈ns,OOk c (n.tick c ⟨e.b,e.c,e.d⟩).2 67 2)->Dst c ((ns.map fun(n:Node)=>n.tick c ⟨e.b,e.c,e.d⟩).flatMap (·.2.letters))/\((ns.map fun(n:Node)=>n.tick c ⟨e.b,e.c,e.d⟩).flatMap (·.2.letters)).length≤67 * ns.length/\((ns.map fun(n:Node)=>n.tick c ⟨e.b,e.c,e.d⟩).flatMap (·.2.done)).length≤2 * ns.length:=by
   intro ns
   induction ns with
   | nil=>intro _;exact⟨Dst.nil c,zB,zB⟩
   | cons n ns ih =>
    intro hx
    obtain⟨i1,i2,i3⟩:=ih (fun n hn=>hx n (kB _ hn))
    have hn:=hx n wA
    simp only[List.map_cons,List.flatMap_cons,xA,List.length_cons]
    exact⟨hn.dst.app i1,by have:=hn.len;omega,by have:=hn.don;omega⟩
  obtain⟨b1,b2,b3⟩:=hb w.nodes (fun n hn=>(hk n hn).2)
  refine⟨fun n hn=>?_,hA0,h.dst,pA _,b1,by simp only at b2 ⊢;omega,by simp only at b3 ⊢;omega⟩
  simp only[List.map_map,List.mem_map] at hn
  obtain⟨x,hx,rfl⟩:=hn
  exact(hk x hx).1.mono vB
theorem wok_step (hc:c.check=0) (h:WOk c w) (hst:w.steps < 35184372088832) (e:Ent):WOk c (w.step c e).1:=by
 obtain⟨hT,-,hS⟩:=tinv_step hc h.t vB e
 have h0:=h.t.st
 have hw:wrap64 (w.steps+1)=w.steps+1:=wrap_id vB vB
 have hA:=acts_ok hc h hst e
 have hN0:∀ n∈w.nodes,NOk c n (65536 * (w.steps+1)):=fun n hn=>(h.node n hn).mono vB
 have hA0:AOk c w.home.queue (w.steps+1):=h.arb.mono vB
 refine⟨hT,?_,?_,?_,?_⟩
 ·rw[hS]
  unfold World.step;simp only;rw[hw]
  repeat' split
  ·exact hN0
  ·exact hA.node
  ·exact hN0
  ·exact hA.node
 ·rw[hS]
  unfold World.step;simp only;rw[hw]
  repeat' split
  ·exact hA0
  ·exact hA.arb
  ·exact hA0
  ·exact hA.arb
 ·unfold World.step;simp only;rw[hw]
  repeat' split
  ·exact h.dst
  ·exact hA.dst
  ·exact h.dst
  ·exact hA.dst.app hA.out
 ·have hr:=h.room
  have:=hA.room
  unfold World.step;simp only;rw[hw]
  repeat' split
  ·exact hr
  ·simp only at this ⊢;omega
  ·exact hr
  ·rename_i q
   simp only[xA] at q ⊢;omega
end
end Go.Proofs.YtiebppkhaiofeaaGreat.S
namespace Go.Proofs.YtiebppkhaiofeaaGreat.K
open Go.RowKit Go.Proofs.YtiebppkhaiofeaaGreatW.PrintWords Go.Proofs.YtiebppkhaiofeaaGreat.S
attribute [local go_sem] World.cell?_alloc_some
open Go.ChangeMaps Go.MapKept
def iv (a b:Nat):Set_:=fun x=>a≤x/\x < b
def Lays (P:Set_->cA->Prop) (X w:cA):Prop:=P (iv X.heap.size w.heap.size) w/\Below X.heap.size X w
theorem Lays.size {P:Set_->cA->Prop} {X w:cA} (h:Lays P X w):X.heap.size≤w.heap.size:=h.2.size
theorem Lays.chain {P:Set_->cA->Prop} {A X w:cA} (h:Lays P X w) (k:Below A.heap.size A X):Below A.heap.size A w:=k.trans (h.2.mono k.size)
theorem sz_alloc (w:cA) (o:Obj):(w.alloc o).heap.size=w.heap.size+1:=by simp only[rA]
theorem sz_drew (w:cA):w.drew.heap.size=w.heap.size:=rfl
theorem sz_set (w:cA) (a:Addr) (v:Value):(w.setCell a v).heap.size=w.heap.size:=by simp
theorem node_iv {c:Cfg} {n:S.Node} {F:cA} {g bc bt bp ba bo l1 u1 l2 u2 B:Nat}
  (hB:F.heap[g]?=M (O #[V I c.nodes,V I c.blocks,V I c.tokens,V I c.sets,V I c.ways,V I c.cap,V I c.wait,V I c.tries,V I c.policy,V I n.id,bA (M ⟨bc,0,U⟩),bA (M ⟨bt,0,U⟩),bA (M ⟨bp,0,U⟩),.map (M ba),.map (M bo)] 133 (0,0)))
  (hC:CacAt c n.lines bc (iv l1 u1) F) (hT:TabAt n.know bt (iv l2 u2) F) (hP:ProcAt c n.cpu bp F) (hA:MapB n.asked ba F) (hO:MapI n.told bo F)
  (hd:B≤l1/\B≤l2/\B≤g/\B≤bp/\B≤ba/\B≤bo/\(u1≤l2∨u2≤l1)/\(g < l1∨u1≤g)/\(g < l2∨u2≤g)/\(bp < l1∨u1≤bp)/\(bp < l2∨u2≤bp)/\(ba < l1∨u1≤ba)/\(ba < l2∨u2≤ba)/\(bo < l1∨u1≤bo)/\(bo < l2∨u2≤bo)/\ba≠bo):NodeAt c n g (fun x=>B≤x) F:=by
 obtain⟨bl,bct,hC⟩:=hC.parts
 obtain⟨d1,d2,d3,d4,d5,d6,d7,d8,d9,d10,d11,d12,d13,d14,d15,d16⟩:=hd
 have out:∀ {a b x:Nat},x < a∨b≤x->¬ iv a b x:=fun h q=>by have q1:=q.1;have q2:=q.2;omega
 exact node_mk (p:=⟨g,bc,bl,bct,bt,bp,ba,bo,0⟩) (G:=fun x=>B≤x) hB hC hT hP hA hO (fun x q1 q2=>by have:=q1.1;have:=q1.2;have:=q2.1;have:=q2.2;omega)
  ⟨out d8,out d9⟩ ⟨out d10,out d11⟩ ⟨out d12,out d13⟩ ⟨out d14,out d15⟩ d16 d3 (fun x q=>by have:=q.1;show B≤x;omega) (fun x q=>by have:=q.1;show B≤x;omega) d4 d5 d6
theorem mapB_new {b:Nat} {F:cA} (h:F.heap[b]?=M (.map #[] 0)):MapB (fun _=>false) b F:=⟨#[],0,fun _=>U,h,IM.empty,fun _=>rfl⟩
theorem mapI_new {b:Nat} {F:cA} (h:F.heap[b]?=M (.map #[] 0)):MapI (fun _=>0) b F:=⟨#[],0,fun _=>U,h,IM.empty,fun _=>rfl⟩
theorem blk_newE {b:Nat} (X:cA) (o:Obj) (h:b=X.heap.size):(X.alloc o).heap[b]?=M o:=by rw[h];exact nA X o
theorem Lays.blk {P:Set_->cA->Prop} {X F:cA} (hl:Lays P X F) {g:Nat} {o:Obj} (h:X.heap[g]?=M o):F.heap[g]?=M o:=kA h hl.2
theorem cacNew_lays (c:Cfg) (hc:1≤c.sets/\c.sets≤64/\1≤c.ways/\c.ways≤16) (X:cA):bB dA 48 #[V I c.sets,V I c.ways] X fun e w'=>∃ b,e=.returned (bA (M ⟨b,0,U⟩))/\Lays (CacAt c Cache.new b) X w' :=
 (cacNew_any c hc X).mono fun e w' ⟨b,he,h,hb⟩=>⟨b,he,h.keep (qB (fun _=>False) _) (fun x hx hF=>⟨⟨hF,hx⟩,id⟩),hb⟩
theorem tabNew_lays (X:cA):bB dA 49 #[] X fun e w'=>∃ b,e=.returned (bA (M ⟨b,0,U⟩))/\Lays (TabAt Table.new b) X w' :=
 (tabNew_any X).mono fun e w' ⟨b,he,h,hb⟩=>⟨b,he,h.keep (qB (fun _=>False) _) (fun x hx hF=>⟨⟨hF,hx⟩,id⟩),hb⟩
theorem procNew_lays (c:Cfg) (X:cA):bB dA 50 #[V I c.wait,V I c.tries] X fun e w'=>∃ b,e=.returned (bA (M ⟨b,0,U⟩))/\Lays (fun F w=>ProcAt c S.Proc.new b w/\F b) X w' :=
 (procNew_any c X).mono fun e w' ⟨he,h⟩=>⟨X.heap.size,he,⟨by rw[h];exact nA X _,pA _,by rw[h];simp⟩,by rw[h];exact eA (fA _ _) _⟩
theorem nodeNew_any (c:Cfg) (hc:c.check=0) (nid:Int) (h0:0≤nid) (h1:nid < c.nodes) (w:cA):bB dA 24 #[cfgV c,V I nid] w fun e w'=>∃ b',e=.returned (.tuple #[bA (M ⟨b',0,U⟩),V I 0])/\NodeAt c (S.Node.new nid) b' (nw w) w'/\Below w.heap.size w w':=by
 obtain⟨q1,q2,q3,q4,-⟩:=check_ok hc
 have CK:=AS (show ∀ W',bB dA 21 _ W' _ from fun W'=>config_any c W')
 rw[hc] at CK
 have BN:=AS (nA w (O #[V I c.nodes,V I c.blocks,V I c.tokens,V I c.sets,V I c.ways,V I c.cap,V I c.wait,V I c.tries,V I c.policy] 23))
 have B0:=AS (eA (fA w.heap.size w) (O #[V I c.nodes,V I c.blocks,V I c.tokens,V I c.sets,V I c.ways,V I c.cap,V I c.wait,V I c.tries,V I c.policy] 23))
 have CA:=AS (fun X=>cacNew_lays c ⟨q1,q2,q3,q4⟩ X)
 have TA:=AS (fun X=>tabNew_lays X)
 have PA:=AS (fun X=>procNew_lays c X)
 have d0:decide (nid < 0)=false:=by simpa using h0
 have d1:decide (c.nodes≤nid)=false:=by simpa using h1
 clear q1 q2 q3 q4 hc
 simp only[cfgV] at CK ⊢
 obtain⟨e0_,e1_,e2_,e3_,e4_,e5_,e6_,e7_,e8_⟩:=(show(w.alloc (O #[V I c.nodes,V I c.blocks,V I c.tokens,V I c.sets,V I c.ways,V I c.cap,V I c.wait,V I c.tries,V I c.policy] 23)).cell? ⟨w.heap.size,0,U⟩=M (V I c.nodes)/\(w.alloc (O #[V I c.nodes,V I c.blocks,V I c.tokens,V I c.sets,V I c.ways,V I c.cap,V I c.wait,V I c.tries,V I c.policy] 23)).cell? ⟨w.heap.size,1,U⟩=M (V I c.blocks)/\(w.alloc (O #[V I c.nodes,V I c.blocks,V I c.tokens,V I c.sets,V I c.ways,V I c.cap,V I c.wait,V I c.tries,V I c.policy] 23)).cell? ⟨w.heap.size,2,U⟩=M (V I c.tokens)/\(w.alloc (O #[V I c.nodes,V I c.blocks,V I c.tokens,V I c.sets,V I c.ways,V I c.cap,V I c.wait,V I c.tries,V I c.policy] 23)).cell? ⟨w.heap.size,3,U⟩=M (V I c.sets)/\(w.alloc (O #[V I c.nodes,V I c.blocks,V I c.tokens,V I c.sets,V I c.ways,V I c.cap,V I c.wait,V I c.tries,V I c.policy] 23)).cell? ⟨w.heap.size,4,U⟩=M (V I c.ways)/\(w.alloc (O #[V I c.nodes,V I c.blocks,V I c.tokens,V I c.sets,V I c.ways,V I c.cap,V I c.wait,V I c.tries,V I c.policy] 23)).cell? ⟨w.heap.size,5,U⟩=M (V I c.cap)/\(w.alloc (O #[V I c.nodes,V I c.blocks,V I c.tokens,V I c.sets,V I c.ways,V I c.cap,V I c.wait,V I c.tries,V I c.policy] 23)).cell? ⟨w.heap.size,6,U⟩=M (V I c.wait)/\(w.alloc (O #[V I c.nodes,V I c.blocks,V I c.tokens,V I c.sets,V I c.ways,V I c.cap,V I c.wait,V I c.tries,V I c.policy] 23)).cell? ⟨w.heap.size,7,U⟩=M (V I c.tries)/\(w.alloc (O #[V I c.nodes,V I c.blocks,V I c.tokens,V I c.sets,V I c.ways,V I c.cap,V I c.wait,V I c.tries,V I c.policy] 23)).cell? ⟨w.heap.size,8,U⟩=M (V I c.policy) from⟨cw BN.out 0,cw BN.out 1,cw BN.out 2,cw BN.out 3,cw BN.out 4,cw BN.out 5,cw BN.out 6,cw BN.out 7,cw BN.out 8⟩)
 go_enter Tryz.func24,Tryz.ntmps24
 go_wp2_with fail
 generalize w.alloc (O #[V I c.nodes,V I c.blocks,V I c.tokens,V I c.sets,V I c.ways,V I c.cap,V I c.wait,V I c.tries,V I c.policy] 23)=W at BN B0 e0_ e1_ e2_ e3_ e4_ e5_ e6_ e7_ e8_ ⊢
 refine(CK.out W).mono ?_
 rintro e wB ⟨rfl,hb2⟩
 have hs0:=B0.out.size
 have BN2:=AS (kA BN.out hb2)
 have B2':=AS (B0.out.trans (hb2.mono hs0))
 clear hb2 CK e0_ e1_ e2_ e3_ e4_ e5_ e6_ e7_ e8_ BN B0 hs0
 have KEEP:=AS (show ∀ x,Below wB.heap.size wB x->(x.cell? ⟨w.heap.size,0,U⟩=M (V I c.nodes)/\x.cell? ⟨w.heap.size,1,U⟩=M (V I c.blocks)/\x.cell? ⟨w.heap.size,2,U⟩=M (V I c.tokens)/\x.cell? ⟨w.heap.size,3,U⟩=M (V I c.sets)/\x.cell? ⟨w.heap.size,4,U⟩=M (V I c.ways)/\x.cell? ⟨w.heap.size,5,U⟩=M (V I c.cap)/\x.cell? ⟨w.heap.size,6,U⟩=M (V I c.wait)/\x.cell? ⟨w.heap.size,7,U⟩=M (V I c.tries)/\x.cell? ⟨w.heap.size,8,U⟩=M (V I c.policy)) from fun x hx=>by have h11:=kA BN2.out hx;exact⟨cw h11 0,cw h11 1,cw h11 2,cw h11 3,cw h11 4,cw h11 5,cw h11 6,cw h11 7,cw h11 8⟩)
 obtain⟨e0_,e1_,e2_,e3_,e4_,e5_,e6_,e7_,e8_⟩:=KEEP.out wB (fA _ _)
 have hmm:=@run_makeMap dA
 go_upto_region 5 with fail
 go_region_held3 (fun x=>x.cell? ⟨w.heap.size,0,U⟩=M (V I c.nodes)/\x.cell? ⟨w.heap.size,1,U⟩=M (V I c.blocks)/\x.cell? ⟨w.heap.size,2,U⟩=M (V I c.tokens)/\x.cell? ⟨w.heap.size,3,U⟩=M (V I c.sets)/\x.cell? ⟨w.heap.size,4,U⟩=M (V I c.ways)/\x.cell? ⟨w.heap.size,5,U⟩=M (V I c.cap)/\x.cell? ⟨w.heap.size,6,U⟩=M (V I c.wait)/\x.cell? ⟨w.heap.size,7,U⟩=M (V I c.tries)/\x.cell? ⟨w.heap.size,8,U⟩=M (V I c.policy)) ((refine KEEP.out _ ?_;(repeat (with_reducible first | exact fA _ _ | apply eA | apply iA | refine Lays.chain HP.out ?_ | refine Lays.chain HT.out ?_ | refine Lays.chain HC.out ?_)))) ((first | (go_at_call 48;refine(CA.out _).mono ?_;rintro e w1 ⟨bc,rfl,hC⟩;have HC:=AS hC;clear hC) | (go_at_call 49;refine(TA.out _).mono ?_;rintro e w2 ⟨bt,rfl,hT⟩;have HT:=AS hT;clear hT) | (go_at_call 50;refine(PA.out _).mono ?_;rintro e w3 ⟨bp,rfl,hP⟩;have HP:=AS hP;clear hP)))
 all_goals
  go_wp2
  (first | (refine yA (v:=.tuple #[bA (M ⟨w3.heap.size,0,U⟩),V I 0]) ?_ rfl ?_;(focus (simp[results,Tryz.results24,go_sem];done))) | (refine yA (v:=.tuple #[bA (M ⟨(w3.alloc (.map #[] 0)).heap.size,0,U⟩),V I 0]) ?_ rfl ?_;(focus (simp[results,Tryz.results24,go_sem];done))) | (refine yA (v:=.tuple #[bA (M ⟨((w3.alloc (.map #[] 0)).alloc (.map #[] 0)).heap.size,0,U⟩),V I 0]) ?_ rfl ?_;(focus (simp[results,Tryz.results24,go_sem];done))))
  have s0:=B2'.out.size
  have s1:=HC.out.size
  have s2:=HT.out.size
  have s3:=HP.out.size
  have s4:=HP.out.1.2
  refine⟨_,rfl,node_iv (bc:=bc) (bt:=bt) (bp:=bp) (n:=S.Node.new nid) (B:=w.heap.size) (nA _ _) (HC.out.1.keep (pB (fun _=>False) (w':=World.alloc _ _) ?_) (fun x _ hF=>⟨hF,id⟩)) (HT.out.1.keep (pB (fun _=>False) (w':=World.alloc _ _) ?_) (fun x _ hF=>⟨hF,id⟩)) (kA HP.out.1.1 ?_) (mapB_new ?_) (mapI_new ?_) ?_,B2'.out.trans (Below.mono (B:=wB.heap.size) ?_ s0)⟩
  ·(repeat (with_reducible first | exact fA _ _ | apply eA | apply iA | refine Lays.chain HP.out ?_ | refine Lays.chain HT.out ?_ | refine Lays.chain HC.out ?_))
  ·(repeat (with_reducible first | exact fA _ _ | apply eA | apply iA | refine Lays.chain HP.out ?_ | refine Lays.chain HT.out ?_ | refine Lays.chain HC.out ?_))
  ·(repeat (with_reducible first | exact fA _ _ | apply eA | apply iA | refine Lays.chain HP.out ?_ | refine Lays.chain HT.out ?_ | refine Lays.chain HC.out ?_))
  ·(repeat (first | (with_reducible refine blk_newE _ _ ?_;(focus (simp only[rA,World.size_drew];done))) | with_reducible refine lA ?_ _ | with_reducible refine fB ?_ | with_reducible refine Lays.blk HP.out ?_ | with_reducible refine Lays.blk HT.out ?_ | with_reducible refine Lays.blk HC.out ?_))
  ·(repeat (first | (with_reducible refine blk_newE _ _ ?_;(focus (simp only[rA,World.size_drew];done))) | with_reducible refine lA ?_ _ | with_reducible refine fB ?_ | with_reducible refine Lays.blk HP.out ?_ | with_reducible refine Lays.blk HT.out ?_ | with_reducible refine Lays.blk HC.out ?_))
  ·simp only[iv,sz_alloc,sz_drew] at s0 s1 s2 s3 s4 ⊢;omega
  ·(repeat (with_reducible first | exact fA _ _ | apply eA | apply iA | refine Lays.chain HP.out ?_ | refine Lays.chain HT.out ?_ | refine Lays.chain HC.out ?_))
theorem cac_mk {c:Cfg} {s:Cache} {bl bt:Nat} {es:Array MapEntry} {ck:Nat} {f:Int->Option Value} {F1 G:Set_} {w2:cA} (hL:LinAt c s.rows bl F1 w2) (hT:w2.heap[bt]?=M (.map es ck)) (hI:IM es ck f) (hk:∀ k,(f k).getD (bunV b0)=bunV (s.tok k)) (hn:¬ F1 bt) (h1:∀ x,F1 x->G x) (h2:G bt) (hG:G w2.heap.size):CacAt c s w2.heap.size G (w2.alloc (O #[bA (M ⟨bl,0,U⟩),.map (M bt)] 177)):=by
 have hb:=eA (fA w2.heap.size w2) (O #[bA (M ⟨bl,0,U⟩),.map (M bt)] 177)
 have q1:=eB hT
 have q2:=hL.lt
 exact⟨fun x=>F1 x/\x < w2.heap.size,bl,bt,es,ck,f,nA _ _,map_alloc hT _,hI,hk,hL.keep (pB (fun _=>False) hb) (fun x hx hF=>⟨⟨hF,hx⟩,id⟩),fun q=>by omega,fun q=>hn q.1,vB,hG,h2,fun x hx=>h1 x hx.1,vB⟩
def LinC (c:Cfg) (rows:Int->List Int) (w:cA) (e:Ending) (w':cA):Prop:=∃ b',e=.returned (bA (M ⟨b',0,U⟩))/\LinAt c rows b' (nw w) w'/\Below w.heap.size w w'
theorem cacCopy_any {c:Cfg} {s:Cache} {b:Nat} {F:Set_} {w:cA} (LC:∀ bl Fl W,LinAt c s.rows bl Fl W->bB dA 105 #[bA (M ⟨bl,0,U⟩)] W (LinC c s.rows W)) (hC:CacAt c s b F w):bB dA 78 #[bA (M ⟨b,0,U⟩)] w fun e w'=>∃ b',e=.returned (bA (M ⟨b',0,U⟩))/\CacAt c s b' (nw w) w'/\Below w.heap.size w w':=by
 obtain⟨Fl,bl,bt,es,ck,f,hB,hT,hI,hk,hL,-,-,-,-,-,-,-⟩:=hC
 have MA:=AS (show ∀ W',Below w.heap.size w W'->bB dA 105 #[bA (M ⟨bl,0,U⟩)] W' (LinC c s.rows W') from fun W' hb=>LC bl Fl W' (hL.keep (pB (fun _=>False) hb) (fun x _ hF=>⟨hF,id⟩)))
 have TA:=AS (show ∀ W',Below w.heap.size w W'->bB dA 106 #[.map (M bt)] W' (fun e w'=>∃ t,e=.returned (.map (M t))/\W'.heap.size≤t/\t < w'.heap.size/\w'.heap[t]?=M (.map es ck)/\Below W'.heap.size W' w') from fun W' hb=>(cloneMT_any (kA hT hb)).mono fun e w' h=>⟨W'.heap.size,h.1,pA _,by rw[h.2];exact eB (nA _ _),by rw[h.2];exact nA _ _,by rw[h.2];exact eA (fA _ _) _⟩)
 have KEEP:=AS (show ∀ x,Below w.heap.size w x->(x.cell? ⟨b,0,U⟩=M (bA (M ⟨bl,0,U⟩))/\x.cell? ⟨b,1,U⟩=M (.map (M bt))) from fun x hx=>by have h11:=kA hB hx;exact⟨cw h11 0,cw h11 1⟩)
 obtain⟨e0_,e1_⟩:=KEEP.out w (fA _ _)
 have MK:=AS (qA hI hk)
 clear hB hT hI hk hL LC
 go_enter Tryz.func78,Tryz.ntmps78
 go_upto_region 1 with fail
 go_region_held3 (fun x=>x.cell? ⟨b,0,U⟩=M (bA (M ⟨bl,0,U⟩))/\x.cell? ⟨b,1,U⟩=M (.map (M bt))) ((refine KEEP.out _ ?_;(repeat (with_reducible first | exact fA _ _ | exact B2.out | exact B1.out | apply eA | apply iA)))) ((first | (go_at_call 105;refine(MA.out w.drew (iA (fA _ _))).mono ?_;rintro e w1 ⟨m1,rfl,hM,hb⟩;have B1:=AS (show Below w.heap.size w w1 from(iA (fA _ _)).trans (hb.mono (pA _)));have M1:=AS hM;clear hM hb) | (go_at_call 106;refine(TA.out _ B1.out).mono ?_;rintro e w2 ⟨t1,rfl,ht1,ht2,hT,hb⟩;have hs1:=B1.out.size;have hs2:=hb.size;have B2:=AS (B1.out.trans (hb.mono hs1));have FN:=AS (cac_mk (c:=c) (s:=s) (G:=nw w) (F1:=fun x=>w.heap.size≤x/\x < w1.heap.size) (M1.out.keep (pB (fun _=>False) hb) (fun x hx hF=>⟨⟨hF,hx⟩,id⟩)) hT MK.out.1 MK.out.2 (fun h=>by omega) (fun x h1=>h1.1) (by show _≤t1;omega) (by show _≤w2.heap.size;omega));clear hT hb hs1 hs2 ht1 ht2) | (go_at_call 106;refine(TA.out w.drew (iA (fA _ _))).mono ?_;rintro e w1 ⟨t1,rfl,ht1,ht2,hT,hb⟩;have B1:=AS (show Below w.heap.size w w1 from(iA (fA _ _)).trans (hb.mono (pA _)));have T1:=AS (show w.heap.size≤t1/\t1 < w1.heap.size/\_ from⟨ht1,ht2,hT⟩);clear hT hb ht1 ht2) | (go_at_call 105;refine(MA.out _ B1.out).mono ?_;rintro e w2 ⟨m1,rfl,hM,hb⟩;have hs1:=B1.out.size;have hs2:=hb.size;have B2:=AS (B1.out.trans (hb.mono hs1));have ht1:=T1.out.1;have ht2:=T1.out.2.1;have FN:=AS (cac_mk (c:=c) (s:=s) (G:=nw w) (F1:=nw w1) hM (kA T1.out.2.2 hb) MK.out.1 MK.out.2 (fun h=>by have h':w1.heap.size≤t1:=h;omega) (fun x h1=>by have h1':w1.heap.size≤x:=h1;show _≤x;omega) (by show _≤t1;omega) (by show _≤w2.heap.size;omega));clear hM hb hs1 hs2 ht1 ht2)))
 all_goals
  go_wp2
  go_ret
  exact⟨_,rfl,FN.out,eA B2.out _⟩
theorem OwnE.cell1 {α:Type} {E:El α} {xs:List α} {W:cA} {g cap i j:Nat} (h:OwnE E (J (M ⟨g,0,U⟩) xs.length cap) xs W) (hi:i < xs.length) (hj:j < E.k) (y:α) (u:Value) (hy:E.f y=(E.f (xs.getD i E.d)).set j u) :
  OwnE E (J (M ⟨g,0,U⟩) xs.length cap) (xs.set i y) (W.setCell ⟨g,i * E.k+j,U⟩ u):=by
 obtain⟨g',cap',e,_,_,_,hc⟩:=own_some h hi
 simp at e
 obtain⟨rfl,rfl⟩:=e
 refine h.setElem hi y fun cur hg hs=>⟨_,mA hg _ _,zB,fun q hq=>?_⟩
 have hkk:i * E.k+E.k≤xs.length * E.k:=by rw[<- Nat.succ_mul];exact Nat.mul_le_mul_right _ hi
 rw[get_set']
 by_cases hr:i * E.k≤q/\q < i * E.k+E.k
 ·rw[if_pos hr,hy]
  have hc':=hc (q - i * E.k) vB
  rw[oB hg,show i * E.k+(q - i * E.k)=q by omega] at hc'
  by_cases hqj:i * E.k+j=q
  ·rw[if_pos hqj,if_pos vB,<- hqj,show i * E.k+j - i * E.k=j by omega,List.getElem?_set_self (by rw[E.len];exact hj)]
  ·rw[if_neg hqj,hc',List.getElem?_set_ne vB]
 ·rw[if_neg hr,if_neg vB]
theorem arowC_q (p:ARowR):(arowC p)[70]?=M p.q:=by
 unfold arowC
 rw[List.getElem?_append_right (by simp[p.hk])]
 simp[p.hk]
def QuOk (F:Set_) (b g:Nat) (q:Value) (xs:List Int) (w:cA):Prop:=∃ A cp,q=J A xs.length cp/\RowE intE w A xs/\xs.length≤cp/\cp≤9223372036854775807/\(A=U->xs=[])/\(∀ ad,A=M ad->F ad.block/\ad.block≠b/\ad.block≠g/\ad.spot=U/\ad.block < w.heap.size)
def ArbB (a:Arb) (b g cap:Nat) (rs:List ARowR) (F:Set_) (w:cA):Prop :=
 w.heap[b]?=M (O #[V I a.nodes,J (M ⟨g,0,U⟩) rs.length cap] 172 (0,0))/\OwnE arowE (J (M ⟨g,0,U⟩) rs.length cap) rs w/\rs.map (·.r)=a.rows/\b≠g/\F b/\F g/\0≤a.nodes/\a.nodes≤64/\a.rows.length≤64/\∀ p∈rs,QuOk F b g p.q p.r.queue w
def ArbX (a:Arb) (b:Nat) (F:Set_) (w:cA):Prop:=∃ g cap rs,ArbB a b g cap rs F w
section
variable {a:Arb} {b g cap:Nat} {rs:List ARowR} {F F' G:Set_} {w w':cA}
theorem RowE.lt {α:Type} {E:El α} {ad:Addr} {xs:List α} {w:cA} (h:RowE E w (M ad) xs) (hn:xs≠[]):ad.block < w.heap.size:=by
 obtain⟨ad',e,hc⟩:=h 0 (by cases xs with | nil=>exact absurd rfl hn | cons x xs=>simp)
 injection e with e
 subst e
 have h0:=hc 0 E.pos
 rw[dB (by rw[E.len];exact E.pos)] at h0
 have:=World.block_lt_of_cell? w _ h0
 simpa [Addr.add] using this
theorem QuOk.keep {q:Value} {xs:List Int} (h:QuOk F b g q xs w) (hk:KS G w w') (hs:∀ x,x < w.heap.size->F x->F' x/\(x≠b->x≠g->¬ G x)):QuOk F' b g q xs w':=by
 obtain⟨A,cp,e,hr,h1,h2,h3,h4⟩:=h
 refine⟨A,cp,e,?_,h1,h2,h3,fun ad had=>⟨(hs _ (h4 ad had).2.2.2.2 (h4 ad had).1).1,(h4 ad had).2.1,(h4 ad had).2.2.1,(h4 ad had).2.2.2.1,Nat.lt_of_lt_of_le (h4 ad had).2.2.2.2 hk.size⟩⟩
 cases A with
 | none=>exact fun i hi=>by rw[h3 rfl] at hi;simp at hi
 | some ad =>
  by_cases hn:xs=[]
  ·subst hn;exact fun i hi=>by simp at hi
  ·exact hr.ks hk (fun ad' e'=>by injection e' with e';subst e';obtain⟨p1,p2,p3,p4,p5⟩:=h4 ad rfl;exact(hs _ p5 p1).2 p2 p3)
theorem ArbB.keep (h:ArbB a b g cap rs F w) (hk:KS G w w') (hs:∀ x,x < w.heap.size->F x->F' x/\¬ G x):ArbB a b g cap rs F' w':=by
 obtain⟨h1,h2,h3,h4,h5,h6,h7,h8,h9,h10⟩:=h
 refine⟨hk.at_ h1 (hs b (eB h1) h5).2,h2.ks hk (fun x hx=>?_),h3,h4,(hs b (eB h1) h5).1,(hs g (h2.lt g (by simp[foot_slice])) h6).1,h7,h8,h9,fun p hp=>(h10 p hp).keep hk (fun x hl hx=>⟨(hs x hl hx).1,fun _ _=>(hs x hl hx).2⟩)⟩
 have hx':x=g:=by simpa [foot_slice] using hx
 subst hx'
 exact(hs x (h2.lt x hx) h6).2
theorem ArbB.lt (h:ArbB a b g cap rs F w):b < w.heap.size:=eB h.1
theorem ArbB.ltg (h:ArbB a b g cap rs F w):g < w.heap.size:=h.2.1.lt g (by simp[foot_slice])
theorem ArbX.keep (h:ArbX a b F w) (hk:KS G w w') (hs:∀ x,x < w.heap.size->F x->F' x/\¬ G x):ArbX a b F' w':=by
 obtain⟨g,cap,rs,h⟩:=h
 exact⟨g,cap,rs,h.keep hk hs⟩
theorem ArbX.mem (h:ArbX a b F w):F b:=by obtain⟨g,cap,rs,h⟩:=h;exact h.2.2.2.2.1
theorem ArbX.lt (h:ArbX a b F w):b < w.heap.size:=by obtain⟨g,cap,rs,h⟩:=h;exact h.lt
theorem ArbB.len (h:ArbB a b g cap rs F w):rs.length=a.rows.length:=by rw[<- h.2.2.1,List.length_map]
theorem ArbB.row (h:ArbB a b g cap rs F w) {i:Nat} (hi:i < rs.length):a.rows.getD i ar0=(rs.getD i arowE.d).r:=by
 rw[<- h.2.2.1]
 simp[List.getD,hi]
theorem ArbB.setRow (h:ArbB a b g cap rs F w) {i:Nat} (hi:i < rs.length) (y:ARowR) {w':cA} (hk:KS (fun x=>x=g) w w') (hO:OwnE arowE (J (M ⟨g,0,U⟩) rs.length cap) (rs.set i y) w') (hq:QuOk (gr F w) b g y.q y.r.queue w'):ArbX { a with rows:=a.rows.set i y.r } b (gr F w) w'/\KS F w w':=by
 obtain⟨h1,h2,h3,h4,h5,h6,h7,h8,h9,h10⟩:=h
 refine⟨⟨g,cap,rs.set i y,?_,?_,?_,h4,.inl h5,.inl h6,h7,h8,by simpa using h9,?_⟩,hk.mono (fun x _ e=>by have e':x=g:=e;rw[e'];exact h6)⟩
 ·rw[List.length_set];exact hk.at_ h1 h4
 ·rw[List.length_set];exact hO
 ·rw[List.map_set,h3]
 ·intro p hp
  rcases List.mem_or_eq_of_mem_set hp with hp | rfl
  ·exact(h10 p hp).keep hk (fun x _ hx=>⟨.inl hx,fun _ hg=>hg⟩)
  ·exact hq
end
def ArbP (v:Value) (a:Arb) (b:Nat) (F:Set_) (w:cA) (e:Ending) (w':cA):Prop:=e=.returned v/\ArbX a b (gr F w) w'/\KS F w w'
def actO (r:Option S.Act):Value:=.tuple #[actV (r.getD act0),aA r.isSome]
theorem arbIs_any {b m cap:Nat} {nn:Int} {A:Option Addr} {w:cA} (hB:w.heap[b]?=M (O #[V I nn,J A m cap] 172 (0,0))) (k n:Int):bB dA 148 #[bA (M ⟨b,0,U⟩),V I k,V I n] w (RQ (aA (decide (k≥0) && decide (k < m) && decide (n≥0) && decide (n < nn))) w):=by
 have c0:=cw hB 0 (v:=V I nn)
 have c1:=cw hB 1 (v:=J A m cap)
 clear hB
 by_cases h0:0≤k
 ·by_cases h1:k < m
  ·by_cases h2:0≤n
   ·by_cases h3:n < nn
    all_goals
     go_enter Tryz.func148,Tryz.ntmps148
     go_wp2
     go_ret
     exact RQ.of (by simp[h0,h1,h2,h3])
   ·go_enter Tryz.func148,Tryz.ntmps148
    go_wp2
    go_ret
    exact RQ.of (by simp[h0,h1,h2];omega)
  ·go_enter Tryz.func148,Tryz.ntmps148
   go_wp2
   go_ret
   exact RQ.of (by simp[h0,h1];omega)
 ·go_enter Tryz.func148,Tryz.ntmps148
  go_wp2
  go_ret
  exact RQ.of (by simp[h0];omega)
theorem arbCurrent_any {a:Arb} {b:Nat} {F:Set_} {w:cA} (hA:ArbX a b F w) (k:Int):bB dA 118 #[bA (M ⟨b,0,U⟩),V I k] w (RV (actO (a.current k)) w):=by
 obtain⟨g,cap,rs,h⟩:=hA
 have c1:=cw h.1 1 (v:=J (M ⟨g,0,U⟩) rs.length cap)
 have hlen:=h.len
 have hcap:cap≤9223372036854775807:=by obtain⟨A,c,e,-,-,hm,-⟩:=h.2.1.row;simp at e;omega
 have h64:rs.length≤64:=by rw[hlen];exact h.2.2.2.2.2.2.2.2.1
 by_cases q1:k < 0
 ·rw[show a.current k=U from if_pos (.inl q1)]
  clear h
  go_enter Tryz.func118,Tryz.ntmps118
  go_wp2
  exact yA (v:=actO U) (by simp[results,Tryz.results118,go_sem,actO,actV,act0]) rfl ⟨rfl,by repeat (first | with_reducible exact fA _ _ | with_reducible apply eA | with_reducible refine oA ?_ (by dsimp only;omega) _)⟩
 ·by_cases q2:k≥(rs.length:Int)
  ·rw[show a.current k=U from if_pos (.inr (.inl (by rw[<- hlen];exact q2)))]
   clear h
   go_enter Tryz.func118,Tryz.ntmps118
   go_wp2
   exact yA (v:=actO U) (by simp[results,Tryz.results118,go_sem,actO,actV,act0]) rfl ⟨rfl,by repeat (first | with_reducible exact fA _ _ | with_reducible apply eA | with_reducible refine oA ?_ (by dsimp only;omega) _)⟩
  ·obtain⟨i,rfl⟩:∃ i:Nat,k=i:=⟨k.toNat,vB⟩
   have hi:i < rs.length:=vB
   obtain⟨g',cap',e,_,_,_,hc⟩:=own_some h.2.1 hi
   simp at e
   obtain⟨rfl,rfl⟩:=e
   have hrow:=h.row hi
   generalize rs.getD i arowE.d=x at *
   have e1:w.cell? ⟨g,i * 71+1,U⟩=M (V I x.r.active.block):=hc 1 yB
   have e2:w.cell? ⟨g,i * 71+2,U⟩=M (V I x.r.active.node):=hc 2 yB
   have e3:w.cell? ⟨g,i * 71+3,U⟩=M (V I x.r.active.seq):=hc 3 yB
   have e4:w.cell? ⟨g,i * 71+4,U⟩=M (aA x.r.on):=hc 4 yB
   have hcur:a.current i=if x.r.on=false then U else M x.r.active:=by
    unfold Arb.current Arb.row
    rw[show(i:Int).toNat=i by omega,hrow]
    have:¬ ((i:Int) < 0∨(i:Int)≥a.rows.length):=vB
    by_cases hon:x.r.on=false
    ·rw[if_pos (.inr (.inr hon)),if_pos hon]
    ·rw[if_neg (by rintro(h | h | h);omega;omega;exact hon h),if_neg hon]
   rw[hcur]
   obtain⟨⟨sq,⟨ab,an,aq⟩,on,en,kn,qu⟩,q,hh,hk⟩:=x
   simp only at e1 e2 e3 e4 ⊢
   have r0:(0:Int)≤(i:Int):=vB
   have r1:(i:Int) < (rs.length:Int):=vB
   clear hc h hrow hcur q1 q2 hlen
   cases on
   ·rw[if_pos rfl]
    go_enter Tryz.func118,Tryz.ntmps118
    go_wp2
    exact yA (v:=actO U) (by simp[results,Tryz.results118,go_sem,actO,actV,act0]) rfl ⟨rfl,by repeat (first | with_reducible exact fA _ _ | with_reducible apply eA | with_reducible refine oA ?_ (by dsimp only;omega) _)⟩
   ·rw[if_neg zB]
    go_enter Tryz.func118,Tryz.ntmps118
    go_wp2
    exact yA (v:=actO (M ⟨ab,an,aq⟩)) (by simp[results,Tryz.results118,go_sem,actO,actV,act0]) rfl ⟨rfl,by repeat (first | with_reducible exact fA _ _ | with_reducible apply eA | with_reducible refine oA ?_ (by dsimp only;omega) _)⟩
end Go.Proofs.YtiebppkhaiofeaaGreat.K
