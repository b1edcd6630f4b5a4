/- Part of the proof of TopStarver: what functions of the program do. -/
import Derived.Test.YtiebppkhaiofeaaGreatS01
set_option maxHeartbeats 4000000
set_option maxRecDepth 100000
set_option linter.unusedVariables false
set_option linter.unusedSimpArgs false
namespace Go.Proofs.YtiebppkhaiofeaaGreat.S
open Go.RowKit (wrap64)
structure Cfg where
 nodes:Int
 blocks:Int
 tokens:Int
 sets:Int
 ways:Int
 cap:Int
 wait:Int
 tries:Int
 policy:Int
structure Bun where
 count:Int
 owner:Bool
 has:Bool
 data:Int
structure Let where
 kind:Int
 src:Int
 dst:Int
 block:Int
 seq:Int
 who:Int
 write:Bool
 bun:Bun
structure Op where
 block:Int
 write:Bool
 value:Int
structure Done where
 node:Int
 number:Int
 op:Op
 value:Int
 step:Int
structure Line where
 block:Int
 bun:Bun
structure Act where
 block:Int
 node:Int
 seq:Int
structure Ent where
 kind:Int
 a:Int
 b:Int
 c:Int
 d:Int
def b0:Bun:=⟨0,false,false,0⟩
def let0:Let:=⟨0,0,0,0,0,0,false,b0⟩
def op0:Op:=⟨0,false,0⟩
def act0:Act:=⟨0,0,0⟩
def clamp (n lo hi:Int):Int:=max (min n hi) lo
def imod (n m:Int):Int:=if m < 1 then 0 else if n.tmod m < 0 then n.tmod m+m else n.tmod m
def bitOf (n at_:Int):Bool:=decide (0≤at_) && decide (at_ < 64) && (Go.bits .and .u64 (IntKind.u64.wrap n / 2 ^ at_.toNat) 1 == 1)
def dblN:Nat->Int->Int->Int
 | 0,n,most=>min n most
 | t+1,n,most=>if n > most - n then most else dblN t (n+n) most
def double (n times most:Int):Int:=dblN (min (max times 0) 64).toNat (max n 0) (max most 0)
def Bun.check (b:Bun) (tokens:Int):Int :=
 if b.count < 0∨b.count > tokens then 4
 else if b.count=0/\(b.owner∨b.has) then 5
 else if (b.owner/\¬ b.has)∨(¬ b.has/\b.data≠0) then 6 else 0
def full (tokens data:Int):Bun:=if tokens < 1 then b0 else ⟨tokens,true,true,data⟩
def valued (count:Int) (owner has:Bool) (data:Int):Bun:=⟨count,owner,has,if has then data else 0⟩
def splitM (h:Bun) (n:Int) (ow data:Bool):Bun×Bun :=
 if n < 1 then (b0,h)
 else (valued n ow (h.has && (data || ow)) h.data,if n < h.count then valued (wrap64 (h.count - n)) (h.owner && !ow) h.has h.data else b0)
def splitK (h:Bun) (n:Int) (owner data:Bool):Bun×Bun :=
 if owner && h.owner && decide (0 < n) then splitM h n true data
 else if h.owner then splitM h (min n (wrap64 (h.count - 1))) false data else splitM h n false data
def split (h:Bun) (count:Int) (owner data:Bool):Bun×Bun:=splitK h (clamp count 0 (max h.count 0)) owner data
def join (h b:Bun):Bun:=valued (wrap64 (h.count+b.count)) (h.owner || b.owner) (h.has || b.has) (if b.has then b.data else h.data)
def reads (h:Bun):Bool:=decide (h.count≥1) && h.has
def writes (h:Bun) (tokens:Int):Bool:=reads h && h.count == tokens
def doOp (op:Op) (h:Bun) (tokens:Int):Bun×Int×Bool :=
 if op.write && writes h tokens then ({ h with data:=op.value },op.value,true)
 else if !op.write && reads h then (h,h.data,true) else (h,0,false)
def within (n lo hi:Int):Bool:=decide (n≥lo) && decide (n≤hi)
def Cfg.check (c:Cfg):Int :=
 if !within c.sets 1 64 || !within c.ways 1 16 || !within c.cap 1 65536 || !within c.wait 1 64 || !within c.tries 0 8 || !within c.policy 0 2 then 1
 else if !within c.nodes 1 64 then 2 else if !within c.blocks 1 64 then 3 else if !within c.tokens c.nodes 65536 then 4 else 0
def endOk (c:Cfg) (at_:Int) (home node:Bool):Bool:=(home && at_ == c.nodes) || (node && decide (at_≥0) && decide (at_ < c.nodes))
structure KRow where
 fromHome:Bool
 fromNode:Bool
 toHome:Bool
 toNode:Bool
 seq:Bool
 who:Bool
 write:Bool
 tokens:Bool
def kr0:KRow:=⟨false,false,false,false,false,false,false,false⟩
def rowsK (k:Int):KRow :=
 if k=1 then ⟨true,true,true,true,false,false,false,true⟩ else if k=2 then ⟨false,true,true,true,false,false,true,false⟩
 else if k=3 then ⟨false,true,true,false,false,false,false,false⟩ else if k=4 then ⟨true,false,false,true,true,true,false,false⟩
 else if k=5 then ⟨false,true,true,false,true,false,false,false⟩ else if k=6 then ⟨true,false,false,true,true,false,false,false⟩
 else if k=7 then ⟨false,true,true,false,true,false,false,false⟩ else kr0
def formOk (c:Cfg) (l:Let) (r:KRow):Bool :=
 ((r.seq && decide (l.seq≥1)) || (!r.seq && l.seq == 0)) && ((r.who && endOk c l.who false true) || (!r.who && l.who == 0)) && (r.write || !l.write)
def Let.check (c:Cfg) (l:Let):Int :=
 if l.kind < 1∨l.kind > 7 then 7
 else if l.block < 0∨l.block≥c.blocks then 3
 else if l.src=l.dst∨endOk c l.src (rowsK l.kind).fromHome (rowsK l.kind).fromNode=false∨endOk c l.dst (rowsK l.kind).toHome (rowsK l.kind).toNode=false then 8
 else if formOk c l (rowsK l.kind)=false then 10
 else if (rowsK l.kind).tokens=false then (if l.bun.count=0/\l.bun.owner=false/\l.bun.has=false/\l.bun.data=0 then 0 else 6)
 else if l.bun.check c.tokens≠0∨l.bun.count > 0 then l.bun.check c.tokens else 4
def tokensL (src dst block:Int) (b:Bun):Let:=⟨1,src,dst,block,0,0,false,b⟩
def spread (kind src block seq who nodes:Int):List Let:=(List.range (max (min nodes 64) 0).toNat).map fun(i:Nat)=>⟨kind,src,i,block,seq,who,false,b0⟩
def Ent.legal (c:Cfg) (e:Ent):Bool :=
 if e.kind=1 then decide (e.a≥0) && decide (e.a < c.nodes) && decide (e.b≥0) && decide (e.b < c.blocks) && (e.c == 0 || e.c == 1)
 else if e.kind=2∨e.kind=3 then decide (e.a≥0) else e.kind == 4
def Ent.op (e:Ent):Op:=⟨e.b,e.c == 1,if e.c == 1 then e.d else 0⟩
structure Proc where
 left:Int
 tried:Int
 over:Bool
 number:Int
 op:Op
 busy:Bool
def Proc.new:Proc:=⟨0,0,false,0,op0,false⟩
def Proc.issue (c:Cfg) (p:Proc) (op:Op):Proc×Bool:=if p.busy then (p,false) else (⟨max c.wait 1,0,false,wrap64 (p.number+1),op,true⟩,true)
def Proc.finish (p:Proc):Proc×Int×Bool:=if p.busy then ({ p with op:=op0,busy:=false },p.number,true) else (p,0,false)
def Proc.tick (c:Cfg) (p:Proc):Proc×Int :=
 if !p.busy then (p,0) else if p.over then (p,0) else if p.left > 1 then ({ p with left:=wrap64 (p.left - 1)},0)
 else if p.tried < c.tries then ({ p with tried:=wrap64 (p.tried+1),left:=max (double c.wait (wrap64 (p.tried+1)) 1048576) 1 },1)
 else ({ p with left:=0,over:=true },2)
def Proc.pinned (p:Proc):Int:=if p.busy then p.op.block else -1
structure Drw where
 x:Int
 y:Int
 z:Int
def Drw.get (d:Drw) (i:Int):Int:=if i=0 then d.x else if i=1 then d.y else d.z
def asks (c:Cfg) (d:Drw) (n:Int):Bool:=c.policy == 1 || (c.policy == 2 && bitOf (d.get (n.tdiv 64)) (n.tmod 64))
def targets (c:Cfg) (self:Int) (d:Drw):List Int :=
 if c.nodes > 64 then [] else ((List.range (c.nodes+1).toNat).map fun(i:Nat)=>(i:Int)).filter fun n=>asks c d n && n != self
def reply (policy:Int) (h:Bun) (write:Bool) (d:Drw):Int×Bool×Bool :=
 if policy=2 then (d.x,bitOf d.y 0,bitOf d.y 1) else if policy≠1 then (0,false,false)
 else if write then (h.count,true,h.owner) else if h.owner then (1,decide (h.count < 2),true) else (0,false,false)
structure Cache where
 rows:Int->List Int
 tok:Int->Bun
def upd {α:Type} (f:Int->α) (k:Int) (v:α):Int->α:=fun j=>if j=k then v else f j
namespace Cache
variable (c:Cfg) (s:Cache)
def new:Cache:=⟨fun _=>[],fun _=>b0⟩
def row (b:Int):List Int:=s.rows (imod b c.sets)
def has (b:Int):Bool:=(s.row c b).contains b
def add (b:Int):Cache×Bool :=
 if b < 0∨s.has c b=true∨((s.row c b).length:Int)≥c.ways then (s,false) else ({ s with rows:=upd s.rows (imod b c.sets) (s.row c b ++ [b])},true)
def remove (b:Int):Cache×Bool :=
 if s.has c b then ({ s with rows:=upd s.rows (imod b c.sets) ((s.row c b).erase b)},true) else (s,false)
def use (b:Int):Cache×Bool:=if (s.remove c b).2 then (s.remove c b).1.add c b else ((s.remove c b).1,false)
def victim (b pinned:Int):Int×Bool :=
 if b < 0 then (-1,false) else if s.has c b=true∨((s.row c b).length:Int) < c.ways then (-1,true)
 else match (s.row c b).find? (fun x=>x != pinned) with | some x=>(x,true) | none=>(-1,false)
def get (b:Int):Bun:=s.tok b
def lose (b:Int):Cache×Bun:=(({ s with tok:=upd s.tok b b0 }:Cache).remove c b |>.1,s.tok b)
def absorb (b:Int) (t:Bun) (pinned:Int):Cache×Option Line :=
 if t.count < 1 then (s,none)
 else if (s.use c b).2 then ({ (s.use c b).1 with tok:=upd s.tok b (join (s.tok b) t)},none)
 else
  let c1:=(s.use c b).1
  let v:=c1.victim c b pinned
  if !v.2 then (c1,some ⟨b,t⟩)
  else if c1.has c v.1 then
   let p:=c1.lose c v.1
   ({ (p.1.add c b).1 with tok:=upd p.1.tok b t },some ⟨v.1,p.2⟩)
  else ({ (c1.add c b).1 with tok:=upd c1.tok b t },none)
def take (b count:Int) (owner data:Bool):Cache×Bun :=
 let p:=split (s.tok b) count owner data
 if p.2.count > 0 then ({ s with tok:=upd s.tok b p.2 },p.1) else ((s.lose c b).1,p.1)
def doIt (op:Op):Cache×Int×Bool :=
 let r:=doOp op (s.tok op.block) c.tokens
 if r.2.2 then ((({ s with tok:=upd s.tok op.block r.1 }:Cache).use c op.block).1,r.2) else (s,r.2)
end Cache
structure Table where
 act:Int->Option Act
 over:Int->Int
namespace Table
variable (t:Table)
def new:Table:=⟨fun _=>none,fun _=>0⟩
def seqOf (b:Int):Int:=match t.act b with | some a=>a.seq | none=>0
def activate (a:Act):Table×Bool :=
 if a.seq < 1∨a.seq≤t.over a.block∨a.seq≤t.seqOf a.block then (t,false) else ({ t with act:=upd t.act a.block (some a)},true)
def deactivate (b s:Int):Table :=
 { over:=upd t.over b (max (t.over b) s),act:=match t.act b with | some a=>if a.seq≤s then upd t.act b none else t.act | none=>t.act }
end Table
structure ARow where
 seq:Int
 active:Act
 on:Bool
 ending:Bool
 knows:List Bool
 queue:List Int
def ar0:ARow:=⟨0,act0,false,false,List.replicate 64 false,[]⟩
structure Arb where
 nodes:Int
 rows:List ARow
namespace Arb
variable (a:Arb)
def new (nodes blocks:Int):Arb:=⟨min (max nodes 0) 64,List.replicate (min (max blocks 0) 64).toNat ar0⟩
def row (b:Int):ARow:=a.rows.getD b.toNat ar0
def is (b n:Int):Bool:=decide (b≥0) && decide (b < a.rows.length) && decide (n≥0) && decide (n < a.nodes)
def setRow (b:Int) (r:ARow):Arb:={ a with rows:=a.rows.set b.toNat r }
def next (b:Int):Arb×Option Act :=
 let r:=a.row b
 if r.on∨r.ending then (a,none) else match r.queue with
  | []=>(a,none)
  | n :: q=>(a.setRow b { r with seq:=wrap64 (r.seq+1),active:=⟨b,n,wrap64 (r.seq+1)⟩,on:=true,queue:=q },some ⟨b,n,wrap64 (r.seq+1)⟩)
def ask (b n:Int):Arb×Option Act:=if a.is b n then (a.setRow b { a.row b with queue:=(a.row b).queue ++ [n]}).next b else (a,none)
def done (b s:Int):Arb×Bool :=
 if b < 0∨b≥a.rows.length then (a,false) else if !(a.row b).on || (a.row b).active.seq != s then (a,false)
 else (a.setRow b { a.row b with on:=false,ending:=true,knows:=List.replicate 64 false },true)
def ack (b s n:Int):Arb×Option Act :=
 if !a.is b n then (a,none) else if !(a.row b).ending || (a.row b).active.seq != s then (a,none)
 else
  let k:=(a.row b).knows.set n.toNat true
  if k≠(List.range 64).map (fun(i:Nat)=>decide ((i:Int) < a.nodes)) then (a.setRow b { a.row b with knows:=k },none)
  else (a.setRow b { a.row b with knows:=k,ending:=false }).next b
def current (b:Int):Option Act:=if b < 0∨b≥a.rows.length∨(a.row b).on=false then none else some (a.row b).active
end Arb
structure Node where
 id:Int
 lines:Cache
 know:Table
 cpu:Proc
 asked:Int->Bool
 told:Int->Int
structure Out where
 letters:List Let
 done:List Done
def out0:Out:=⟨[],[]⟩
def Out.send (o:Out) (l:Let):Out:={ o with letters:=o.letters ++ [l]}
namespace Node
variable (c:Cfg) (n:Node)
def new (id:Int):Node:=⟨id,Cache.new,Table.new,Proc.new,fun _=>false,fun _=>0⟩
def own (b:Int):Option Act:=match n.know.act b with | some a=>if a.node=n.id then some a else none | none=>none
def other (b:Int):Option Int:=match n.know.act b with | some a=>if a.node=n.id then none else some a.node | none=>none
def home (kind block seq:Int):Let:=⟨kind,n.id,c.nodes,block,seq,0,false,b0⟩
def end_ (b:Int) (o:Out):Node×Out:=match n.own b with
 | none=>(n,o)
 | some a=>if a.seq≤n.told b then (n,o) else ({ n with told:=upd n.told b a.seq,asked:=upd n.asked b false },o.send (n.home c 5 b a.seq))
def settle (o:Out):Node×Out :=
 if !n.cpu.busy then (n,o) else
  let r:=n.lines.doIt c n.cpu.op
  if !r.2.2 then (n,o) else
   let f:=n.cpu.finish
   ({ n with lines:=r.1,cpu:=f.1 }:Node).end_ c n.cpu.op.block { o with done:=o.done ++ [(⟨n.id,f.2.1,n.cpu.op,r.2.1,0⟩:Done)]}
def ask (op:Op) (d:Drw) (o:Out):Out:={ o with letters:=o.letters ++ (targets c n.id d).map fun to_=>(⟨2,n.id,to_,op.block,0,0,op.write,b0⟩:Let)}
def issue (op:Op) (d:Drw):Node×Out×Bool :=
 if op.block < 0∨op.block≥c.blocks then (n,out0,false) else
  let p:=n.cpu.issue c op
  if !p.2 then (n,out0,false) else
   let r:=({ n with cpu:=p.1 }:Node).settle c out0
   (r.1,if r.1.cpu.busy then r.1.ask c op d r.2 else r.2,true)
def tokens (l:Let) (o:Out):Node×Out:=match n.other l.block with
 | some to_=>(n,o.send (tokensL n.id to_ l.block l.bun))
 | none =>
  let r:=n.lines.absorb c l.block l.bun n.cpu.pinned
  ({ n with lines:=r.1 }:Node).settle c (match r.2 with | some g=>o.send (tokensL n.id c.nodes g.block g.bun) | none=>o)
def asks (l:Let) (d:Drw) (o:Out):Node×Out :=
 if (n.own l.block).isSome/\n.cpu.pinned=l.block then (n,o) else
  let p:=reply c.policy (n.lines.get l.block) l.write d
  let r:=n.lines.take c l.block p.1 p.2.1 p.2.2
  ({ n with lines:=r.1 },if r.2.count > 0 then o.send (tokensL n.id l.src l.block r.2) else o)
def activate (l:Let) (o:Out):Node×Out :=
 let r:=n.know.activate ⟨l.block,l.who,l.seq⟩
 if !r.2 then (n,o) else
  let n1:Node:={ n with know:=r.1 }
  if l.who=n.id then (if n1.cpu.pinned≠l.block then n1.end_ c l.block o else (n1,o)) else
   let t:=n1.lines.take c l.block (n1.lines.get l.block).count true true
   ({ n1 with lines:=t.1 },if t.2.count > 0 then o.send (tokensL n.id l.who l.block t.2) else o)
def deactivate (l:Let) (o:Out):Node×Out:=({ n with know:=n.know.deactivate l.block l.seq },o.send (n.home c 7 l.block l.seq))
def take (l:Let) (d:Drw):Node×Out :=
 if l.check c≠0∨l.dst≠n.id then (n,out0)
 else if l.kind=1 then n.tokens c l out0 else if l.kind=2 then n.asks c l d out0 else if l.kind=4 then n.activate c l out0 else if l.kind=6 then n.deactivate c l out0 else (n,out0)
def tick (d:Drw):Node×Out :=
 let t:=n.cpu.tick c
 let n1:={ n with cpu:=t.1 }
 if t.2=1 then (n1,n1.ask c n.cpu.op d out0)
 else if t.2=2 then (if n.asked n.cpu.op.block then (n1,out0) else ({ n1 with asked:=upd n.asked n.cpu.op.block true },out0.send (n.home c 3 n.cpu.op.block 0)))
 else (n1,out0)
end Node
structure Home where
 mem:List Bun
 queue:Arb
namespace Home
variable (c:Cfg) (h:Home)
def new:Home:=⟨List.replicate (clamp c.blocks 0 64).toNat (full c.tokens 0),Arb.new c.nodes c.blocks⟩
def is (b:Int):Bool:=decide (b≥0) && decide (b < h.mem.length)
def get (b:Int):Bun:=if h.is b then h.mem.getD b.toNat b0 else b0
def put (b:Int) (t:Bun):Home:=if h.is b then { h with mem:=h.mem.set b.toNat (join (h.get b) t)} else h
def memTake (b count:Int) (owner data:Bool):Home×Bun :=
 if h.is b then ({ h with mem:=h.mem.set b.toNat (split (h.get b) count owner data).2 },(split (h.get b) count owner data).1) else (h,b0)
def tokens (to_ block:Int) (b:Bun):List Let:=if b.count < 1 then [] else [tokensL c.nodes to_ block b]
def begin_ (r:Arb×Option Act):Home×List Let:=match r.2 with
 | none=>({ h with queue:=r.1 },[])
 | some a =>
  let t:=({ h with queue:=r.1 }:Home).memTake a.block (h.get a.block).count true true
  (t.1,spread 4 c.nodes a.block a.seq a.node c.nodes ++ tokens c a.node a.block t.2)
def take (l:Let) (d:Drw):Home×List Let :=
 if l.check c≠0∨l.dst≠c.nodes then (h,[])
 else if l.kind=1 then (match h.queue.current l.block with | some a=>(h,tokens c a.node l.block l.bun) | none=>(h.put l.block l.bun,[]))
 else if l.kind=2 then
  let p:=reply c.policy (h.get l.block) l.write d
  let t:=h.memTake l.block p.1 p.2.1 p.2.2
  (t.1,tokens c l.src l.block t.2)
 else if l.kind=3 then h.begin_ c (h.queue.ask l.block l.src)
 else if l.kind=5 then
  let r:=h.queue.done l.block l.seq
  ({ h with queue:=r.1 },if r.2 then spread 6 c.nodes l.block l.seq 0 c.nodes else [])
 else if l.kind=7 then h.begin_ c (h.queue.ack l.block l.seq l.src)
 else (h,[])
end Home
structure World where
 steps:Int
 ticks:Int
 nodes:List Node
 home:Home
 way:List Let
namespace World
variable (c:Cfg) (w:World)
def new:World:=⟨0,0,(List.range c.nodes.toNat).map fun(i:Nat)=>Node.new i,Home.new c,[]⟩
def node (i:Int):Node:=w.nodes.getD i.toNat (Node.new i)
def acts (e:Ent):Bool×World×List Let×List Done :=
 if e.kind=1 then
  let r:=(w.node e.a).issue c e.op ⟨0,0,0⟩
  (r.2.2,{ w with nodes:=w.nodes.set e.a.toNat r.1 },r.2.1.letters,r.2.1.done)
 else if e.kind=2 then
  if h:0≤e.a/\e.a < w.way.length then
   let l:=w.way.getD e.a.toNat let0
   let w1:={ w with way:=w.way.eraseIdx e.a.toNat }
   if l.dst=c.nodes then
    let r:=w.home.take c l ⟨e.b,e.c,e.d⟩
    (true,{ w1 with home:=r.1 },r.2,[])
   else
    let r:=(w.node l.dst).take c l ⟨e.b,e.c,e.d⟩
    (true,{ w1 with nodes:=w.nodes.set l.dst.toNat r.1 },r.2.letters,r.2.done)
  else (false,w,[],[])
 else if e.kind=3 then
  if 0≤e.a/\e.a < w.way.length/\(w.way.getD e.a.toNat let0).kind=2 then (true,{ w with way:=w.way.eraseIdx e.a.toNat },[],[]) else (false,w,[],[])
 else
  let rs:=w.nodes.map fun(n:Node)=>n.tick c ⟨e.b,e.c,e.d⟩
  (true,{ w with ticks:=wrap64 (w.ticks+1),nodes:=rs.map (·.1)},rs.flatMap (·.2.letters),rs.flatMap (·.2.done))
def step (e:Ent):World×Int×List Done :=
 let w0:={ w with steps:=wrap64 (w.steps+1)}
 if !e.legal c then (w0,0,[])
 else
  let r:=w0.acts c e
  if !r.1 then (r.2.1,0,[])
  else if (r.2.2.1.length:Int) > c.cap - r.2.1.way.length then (w0,2,[])
  else ({ r.2.1 with way:=r.2.1.way ++ r.2.2.1 },1,r.2.2.2.map fun d=>{ d with step:=w0.steps })
end World
end Go.Proofs.YtiebppkhaiofeaaGreat.S
namespace Go.Proofs.YtiebppkhaiofeaaGreat.K
open Go.RowKit Go.Proofs.YtiebppkhaiofeaaGreatW.PrintWords Go.Proofs.YtiebppkhaiofeaaGreat.S
def RV (v:Value) (w:Go.World) (e:Ending) (w':Go.World):Prop:=e=.returned v/\Below w.heap.size w w'
theorem RV.of {v v':Value} {w w':Go.World} (h:v=v') (hb:Below w.heap.size w w'):RV v' w (.returned v) w':=⟨by rw[h],hb⟩
def RQ (v:Value) (w:Go.World) (e:Ending) (w':Go.World):Prop:=e=.returned v/\w=w'
theorem RQ.of {v v':Value} {w:Go.World} (h:v=v'):RQ v' w (.returned v) w:=⟨by rw[h],rfl⟩
theorem bcell {W w1:Go.World} (hb:Below W.heap.size W w1):(∀ b o,b < W.heap.size->w1.cell? ⟨b,o,none⟩=W.cell? ⟨b,o,none⟩)/\(∀ b o,b < W.heap.size->w1.frozen? ⟨b,o,none⟩=W.frozen? ⟨b,o,none⟩) :=
 ⟨fun b o h=>hb.cell (p:=⟨b,o,none⟩) h,fun b o h=>hb.frozen (p:=⟨b,o,none⟩) h⟩
def bunC (b:Bun):List Value:=[.int .i64 b.count,.bool b.owner,.bool b.has,.int .i64 b.data]
def bunV (b:Bun):Value:=.agg #[.int .i64 b.count,.bool b.owner,.bool b.has,.int .i64 b.data]
theorem tmod_lo (n m:Int) (h:1≤m) : -m < n.tmod m/\n.tmod m < m:=⟨by have:=Int.lt_tmod_of_pos n (show 0 < m by omega);omega,Int.tmod_lt_of_pos n (by omega)⟩
theorem clamp_any (n:Int) (lo:Int) (hi:Int) (w:Go.World):Calls Tryz.prog 73 #[.int .i64 n,.int .i64 lo,.int .i64 hi] w (RQ (.int .i64 (clamp n lo hi)) w):=by
 go_enter Tryz.func73,Tryz.ntmps73
 go_wp2
 all_goals
  go_ret
  exact RQ.of (by simp[clamp];omega)
theorem mod_any (n:Int) (m:Int) (w:Go.World) (h1:1≤m) (h2:m≤64):Calls Tryz.prog 179 #[.int .i64 n,.int .i64 m] w (RQ (.int .i64 (imod n m)) w):=by
 have q1:¬ m < 1:=by omega
 have ht:=AS (tmod_lo n m h1)
 go_enter Tryz.func179,Tryz.ntmps179
 go_wp2
 ·rename_i hneg
  go_ret
  refine RQ.of ?_
  have h9:=ht.out.1
  show Value.int .i64 _=_
  rw[imod,if_neg (show ¬ m < 1 by omega),if_pos hneg];congr 1;unfold wrap64;omega
 ·rename_i hneg
  go_ret
  refine RQ.of ?_
  show Value.int .i64 _=_
  rw[imod,if_neg (show ¬ m < 1 by omega),if_neg (show ¬ n.tmod m < 0 by omega)]
theorem bit_any (n:Int) (k:Int) (w:Go.World):Calls Tryz.prog 144 #[.int .i64 n,.int .i64 k] w (RQ (.bool (bitOf n k)) w):=by
 go_enter Tryz.func144,Tryz.ntmps144
 go_wp2
 all_goals
  go_ret
  exact RQ.of (by simp[bitOf, *] <;> omega)
theorem full_any (t d:Int) (w:Go.World):Calls Tryz.prog 74 #[.int .i64 t,.int .i64 d] w (RV (bunV (full t d)) w):=by
 by_cases ht:t < 1
 ·rw[show full t d=b0 from if_pos ht]
  go_enter Tryz.func74,Tryz.ntmps74
  go_wp2
  exact bodyPost_ret (v:=bunV b0) (by simp[results,Tryz.results74,go_sem,bunV,b0]) rfl ⟨rfl,below_alloc (Below.refl _ _) _⟩
 ·rw[show full t d=⟨t,true,true,d⟩ from if_neg ht]
  go_enter Tryz.func74,Tryz.ntmps74
  go_wp2
  exact bodyPost_ret (v:=bunV ⟨t,true,true,d⟩) (by simp[results,Tryz.results74,go_sem,bunV]) rfl ⟨rfl,below_alloc (Below.refl _ _) _⟩
def ValuedP (n:Int) (o hz:Bool) (d:Int) (w:Go.World) (e:Ending) (w':Go.World):Prop:=e=.returned (.agg #[.int .i64 n,.bool o,.bool hz,.int .i64 (if hz then d else 0)])/\(w.alloc (.cells #[.int .i64 n,.bool o,.bool hz,.int .i64 (if hz then d else 0)] 45)).alloc (.cells #[.int .i64 n,.bool o,.bool hz,.int .i64 (if hz then d else 0)] 45)=w'
theorem valued_any (n:Int) (o hz:Bool) (d:Int) (w:Go.World):Calls Tryz.prog 162 #[.int .i64 n,.bool o,.bool hz,.int .i64 d] w (ValuedP n o hz d w):=by
 cases hz
 ·go_enter Tryz.func162,Tryz.ntmps162
  go_wp2
  exact bodyPost_ret (v:=.agg #[.int .i64 n,.bool o,.bool false,.int .i64 0]) (by simp[results,Tryz.results162,go_sem]) rfl ⟨rfl,rfl⟩
 ·go_enter Tryz.func162,Tryz.ntmps162
  go_wp2
  exact bodyPost_ret (v:=.agg #[.int .i64 n,.bool o,.bool true,.int .i64 d]) (by simp[results,Tryz.results162,go_sem]) rfl ⟨rfl,rfl⟩
def letC (l:Let):List Value:=[.int .i64 l.kind,.int .i64 l.src,.int .i64 l.dst,.int .i64 l.block,.int .i64 l.seq,.int .i64 l.who,.bool l.write,.int .i64 l.bun.count,.bool l.bun.owner,.bool l.bun.has,.int .i64 l.bun.data]
def letV (l:Let):Value:=.agg #[.int .i64 l.kind,.int .i64 l.src,.int .i64 l.dst,.int .i64 l.block,.int .i64 l.seq,.int .i64 l.who,.bool l.write,.int .i64 l.bun.count,.bool l.bun.owner,.bool l.bun.has,.int .i64 l.bun.data]
def opV (o:S.Op):Value:=.agg #[.int .i64 o.block,.bool o.write,.int .i64 o.value]
def cfgV (c:Cfg):Value:=.agg #[.int .i64 c.nodes,.int .i64 c.blocks,.int .i64 c.tokens,.int .i64 c.sets,.int .i64 c.ways,.int .i64 c.cap,.int .i64 c.wait,.int .i64 c.tries,.int .i64 c.policy]
theorem reads_any (c:Int) (o h:Bool) (d:Int) (w:Go.World):Calls Tryz.prog 160 #[.agg #[.int .i64 c,.bool o,.bool h,.int .i64 d]] w (RV (.bool (reads ⟨c,o,h,d⟩)) w):=by
 go_enter Tryz.func160,Tryz.ntmps160
 go_wp2
 all_goals
  go_ret
  exact RV.of (by simp[reads, *] <;> omega) (by repeat (first | exact Below.refl _ _ | assumption | apply below_alloc))
theorem writes_any (c:Int) (o h:Bool) (d t:Int) (w:Go.World):Calls Tryz.prog 159 #[.agg #[.int .i64 c,.bool o,.bool h,.int .i64 d],.int .i64 t] w (RV (.bool (writes ⟨c,o,h,d⟩ t)) w):=by
 go_enter Tryz.func159,Tryz.ntmps159
 go_wp2_with fail
 refine(reads_any c o h d _).mono ?_
 rintro e w1 ⟨rfl,hb⟩
 obtain⟨hcl,hfr⟩:=bcell hb
 have HB:=AS hb
 clear hb
 cases hr:reads ⟨c,o,h,d⟩
 all_goals
  go_wp2
  all_goals
   go_ret
   exact RV.of (by simp[writes,hr]) ((below_alloc (Below.refl _ _) _).trans (HB.out.mono (by simp)))
theorem bcheck_any (c:Int) (o h:Bool) (d t:Int) (w:Go.World):Calls Tryz.prog 117 #[.agg #[.int .i64 c,.bool o,.bool h,.int .i64 d],.int .i64 t] w (RV (.int .i64 (Bun.check ⟨c,o,h,d⟩ t)) w):=by
 go_enter Tryz.func117,Tryz.ntmps117
 go_wp2
 all_goals
  go_ret
  exact RV.of (by unfold Bun.check;(repeat' split) <;> first | rfl | (exfalso;simp_all;done) | (exfalso;simp_all;omega)) (by repeat (first | exact Below.refl _ _ | assumption | apply below_alloc))
theorem tokens_any (f t b c:Int) (o h:Bool) (d:Int) (w:Go.World):Calls Tryz.prog 130 #[.int .i64 f,.int .i64 t,.int .i64 b,.agg #[.int .i64 c,.bool o,.bool h,.int .i64 d]] w (RV (letV (tokensL f t b ⟨c,o,h,d⟩)) w):=by
 go_enter Tryz.func130,Tryz.ntmps130
 go_wp2
 exact bodyPost_ret (v:=letV (tokensL f t b ⟨c,o,h,d⟩)) (by simp[results,Tryz.results130,go_sem,letV,tokensL]) rfl ⟨rfl,by repeat (first | exact Below.refl _ _ | assumption | apply below_alloc)⟩
theorem op_any (k a b c d:Int) (w:Go.World):Calls Tryz.prog 55 #[.agg #[.int .i64 k,.int .i64 a,.int .i64 b,.int .i64 c,.int .i64 d]] w (RV (opV (Ent.op ⟨k,a,b,c,d⟩)) w):=by
 by_cases hc:c=1
 ·rw[show Ent.op ⟨k,a,b,c,d⟩=⟨b,true,d⟩ by simp[Ent.op,hc]]
  have h1:(c == 1)=true:=by simp[hc]
  go_enter Tryz.func55,Tryz.ntmps55
  go_wp2
  exact bodyPost_ret (v:=opV ⟨b,true,d⟩) (by simp[results,Tryz.results55,go_sem,opV]) rfl ⟨rfl,by repeat (first | exact Below.refl _ _ | assumption | apply below_alloc)⟩
 ·rw[show Ent.op ⟨k,a,b,c,d⟩=⟨b,false,0⟩ by simp[Ent.op,hc]]
  have h1:(c == 1)=false:=by simp[hc]
  go_enter Tryz.func55,Tryz.ntmps55
  go_wp2
  exact bodyPost_ret (v:=opV ⟨b,false,0⟩) (by simp[results,Tryz.results55,go_sem,opV]) rfl ⟨rfl,by repeat (first | exact Below.refl _ _ | assumption | apply below_alloc)⟩
theorem drops_any (l:Let) (w:Go.World):Calls Tryz.prog 62 #[letV l] w (RV (.bool (l.kind == 2)) w):=by
 obtain⟨k,f,t,b,q,wh,wr,⟨c,o,h,d⟩⟩:=l
 simp only[letV]
 go_enter Tryz.func62,Tryz.ntmps62
 go_wp2
 go_ret
 exact RV.of rfl (by repeat (first | exact Below.refl _ _ | assumption | apply below_alloc))
theorem within_any (n lo hi:Int) (w:Go.World):Calls Tryz.prog 45 #[.int .i64 n,.int .i64 lo,.int .i64 hi] w (RQ (.bool (within n lo hi)) w):=by
 go_enter Tryz.func45,Tryz.ntmps45
 go_wp2
 all_goals
  go_ret
  exact RQ.of (by simp[within, *] <;> omega)
theorem join_any (hc:Int) (ho hh:Bool) (hd bc:Int) (bo bh:Bool) (bd:Int) (w:Go.World):Calls Tryz.prog 146 #[.agg #[.int .i64 hc,.bool ho,.bool hh,.int .i64 hd],.agg #[.int .i64 bc,.bool bo,.bool bh,.int .i64 bd]] w (RV (bunV (join ⟨hc,ho,hh,hd⟩ ⟨bc,bo,bh,bd⟩)) w):=by
 cases bh <;> cases ho <;> cases hh
 all_goals
  go_enter Tryz.func146,Tryz.ntmps146
  go_wp2_with fail
  refine(valued_any _ _ _ _ _).mono ?_
  rintro e w1 ⟨rfl,rfl⟩
  go_wp2
  exact bodyPost_ret (v:=bunV (join ⟨hc,_,_,hd⟩ ⟨bc,bo,_,bd⟩)) (by simp[results,Tryz.results146,go_sem,bunV,join,valued]) rfl ⟨rfl,by repeat (first | exact Below.refl _ _ | assumption | apply below_alloc)⟩
theorem bfin {w W0 w1:Go.World} (h0:Below w.heap.size w W0) (h:Below W0.heap.size W0 w1):Below w.heap.size w w1:=h0.trans (h.mono h0.size)
def doV (r:Bun×Int×Bool):Value:=.tuple #[bunV r.1,.int .i64 r.2.1,.bool r.2.2]
theorem do_any (bl:Int) (wr:Bool) (v c:Int) (o h:Bool) (d t:Int) (w:Go.World):Calls Tryz.prog 142 #[.agg #[.int .i64 bl,.bool wr,.int .i64 v],.agg #[.int .i64 c,.bool o,.bool h,.int .i64 d],.int .i64 t] w (RV (doV (doOp ⟨bl,wr,v⟩ ⟨c,o,h,d⟩ t)) w):=by
 cases wr
 ·cases hr:reads ⟨c,o,h,d⟩
  ·rw[show doOp ⟨bl,false,v⟩ ⟨c,o,h,d⟩ t=(⟨c,o,h,d⟩,0,false) by simp[doOp,hr]]
   go_enter Tryz.func142,Tryz.ntmps142
   go_wp2_with fail
   refine(reads_any _ _ _ _ _).mono ?_
   rintro e w1 ⟨rfl,hb⟩
   rw[hr]
   obtain⟨hcl,hfr⟩:=bcell hb
   have B1:=AS hb
   clear hb
   go_wp2
   all_goals (try go_region)
   all_goals (try go_wp2)
   exact bodyPost_ret (v:=doV (⟨c,o,h,d⟩,0,false)) (by simp[results,Tryz.results142,go_sem,bunV,doV,hcl,hfr]) rfl ⟨rfl,by repeat (first | exact Below.refl _ _ | apply below_alloc | apply Below.drew | refine Below.setCell ?_ (by dsimp only;omega) _ | exact bfin (by repeat (first | exact Below.refl _ _ | apply below_alloc)) B1.out)⟩
  ·rw[show doOp ⟨bl,false,v⟩ ⟨c,o,h,d⟩ t=(⟨c,o,h,d⟩,d,true) by simp[doOp,hr]]
   go_enter Tryz.func142,Tryz.ntmps142
   go_wp2_with fail
   refine(reads_any _ _ _ _ _).mono ?_
   rintro e w1 ⟨rfl,hb⟩
   rw[hr]
   obtain⟨hcl,hfr⟩:=bcell hb
   have B1:=AS hb
   clear hb
   go_wp2
   all_goals (try go_region)
   all_goals (try go_wp2)
   exact bodyPost_ret (v:=doV (⟨c,o,h,d⟩,d,true)) (by simp[results,Tryz.results142,go_sem,bunV,doV,hcl,hfr]) rfl ⟨rfl,by repeat (first | exact Below.refl _ _ | apply below_alloc | apply Below.drew | refine Below.setCell ?_ (by dsimp only;omega) _ | exact bfin (by repeat (first | exact Below.refl _ _ | apply below_alloc)) B1.out)⟩
 ·cases hr:writes ⟨c,o,h,d⟩ t
  ·rw[show doOp ⟨bl,true,v⟩ ⟨c,o,h,d⟩ t=(⟨c,o,h,d⟩,0,false) by simp[doOp,hr]]
   go_enter Tryz.func142,Tryz.ntmps142
   go_wp2_with fail
   refine(writes_any _ _ _ _ _ _).mono ?_
   rintro e w1 ⟨rfl,hb⟩
   rw[hr]
   obtain⟨hcl,hfr⟩:=bcell hb
   have B1:=AS hb
   clear hb
   go_wp2
   all_goals (try go_region)
   all_goals (try go_wp2)
   exact bodyPost_ret (v:=doV (⟨c,o,h,d⟩,0,false)) (by simp[results,Tryz.results142,go_sem,bunV,doV,hcl,hfr]) rfl ⟨rfl,by repeat (first | exact Below.refl _ _ | apply below_alloc | apply Below.drew | refine Below.setCell ?_ (by dsimp only;omega) _ | exact bfin (by repeat (first | exact Below.refl _ _ | apply below_alloc)) B1.out)⟩
  ·rw[show doOp ⟨bl,true,v⟩ ⟨c,o,h,d⟩ t=(⟨c,o,h,v⟩,v,true) by simp[doOp,hr]]
   go_enter Tryz.func142,Tryz.ntmps142
   go_wp2_with fail
   refine(writes_any _ _ _ _ _ _).mono ?_
   rintro e w1 ⟨rfl,hb⟩
   rw[hr]
   obtain⟨hcl,hfr⟩:=bcell hb
   have B1:=AS hb
   clear hb
   go_wp2
   all_goals (try go_region)
   all_goals (try go_wp2)
   exact bodyPost_ret (v:=doV (⟨c,o,h,v⟩,v,true)) (by simp[results,Tryz.results142,go_sem,bunV,doV,hcl,hfr]) rfl ⟨rfl,by repeat (first | exact Below.refl _ _ | apply below_alloc | apply Below.drew | refine Below.setCell ?_ (by dsimp only;omega) _ | exact bfin (by repeat (first | exact Below.refl _ _ | apply below_alloc)) B1.out)⟩
theorem start_any (x:Int) (w:Go.World):Calls Tryz.prog 109 #[.int .i64 x] w (RV (.agg #[.int .i64 (max x 1),.int .i64 0,.bool false]) w):=by
 go_enter Tryz.func109,Tryz.ntmps109
 go_wp2
 all_goals exact bodyPost_ret (v:=.agg #[.int .i64 (max x 1),.int .i64 0,.bool false]) (by simp[results,Tryz.results109,go_sem];try omega) rfl ⟨rfl,by repeat (first | exact Below.refl _ _ | assumption | apply below_alloc)⟩
end Go.Proofs.YtiebppkhaiofeaaGreat.K
namespace Go.Proofs.YtiebppkhaiofeaaGreat.K
open Go.RowKit Go.Proofs.YtiebppkhaiofeaaGreatW.PrintWords
variable {α:Type} {E:El α}
theorem list_appE {ops:Array Oper} {rest:List Oper} {o:Oper} {a:Act} {Q:Exit->Act->World->Prop} {w:World} (hw:Region.wanted o (yielded ops a.tmps)=true) (s x:Operand)
  (ho:o.op=.call { callee:=.builtin .append,args:=#[s,x],argTypes:=#[E.S,E.S]}) {v:Value} {xs ys:List α} {A:Option Addr} {m c:Nat}
  (hs:a.eval s=v) (hx:a.eval x=.slice A m c) (hm:m=ys.length) (hO:OwnE E v xs w) (hR:RowE E w A ys) (hbytes:(xs.length+ys.length) * E.bys≤140737488355328)
  (h:∀ v' w',OwnE E v' (xs ++ ys) w'->Keeps (foot v) w w'->(foot v'=foot v∨foot v'=[w.heap.size])->wpList Tryz.prog ops Q rest (a.put o.dst v') w'):wpList Tryz.prog ops Q (o :: rest) a w:=by
 subst hm
 refine wpList_step fun K hK=>?_
 rw[if_pos hw]
 obtain⟨v',w',hr,h2,h3,h4⟩:=app_run o.type hO hR (c:=c) hbytes
 unfold Oper.wp execOp
 simp only[ho,resolve,invoke,builtin,Sem.run_bind,Sem.run_pure,Result.andThen_ok,List.map_toArray,List.map_cons,List.map_nil,hs,hx,hr]
 exact hK _ _ (h v' w' h2 h3 h4)
theorem step_appE {ops:Array Oper} {o:Oper} {a:Act} {K:Act->World->Prop} {Q:Exit->Act->World->Prop} {w:World} {D:Prop} (hgd:o.guard=none) (s x:Operand)
  (ho:o.op=.call { callee:=.builtin .append,args:=#[s,x],argTypes:=#[E.S,E.S]}) {v:Value} {xs ys:List α} {A:Option Addr} {m c:Nat}
  (hs:a.eval s=v) (hx:a.eval x=.slice A m c) (hm:m=ys.length) (hO:OwnE E v xs w) (hR:RowE E w A ys) (hbytes:(xs.length+ys.length) * E.bys≤140737488355328)
  (h:∀ v' w',OwnE E v' (xs ++ ys) w'->Keeps (foot v) w w'->(foot v'=foot v∨foot v'=[w.heap.size])->K (a.put o.dst v') w') :
  if Region.wanted o (yielded ops a.tmps)=true then Oper.wp Tryz.prog o a w K Q else D:=by
 subst hm
 have hw:Region.wanted o (yielded ops a.tmps)=true:=by simp[Region.wanted,hgd]
 rw[if_pos hw]
 obtain⟨v',w',hr,h2,h3,h4⟩:=app_run o.type hO hR (c:=c) hbytes
 unfold Oper.wp execOp
 simp only[ho,resolve,invoke,builtin,Sem.run_bind,Sem.run_pure,Result.andThen_ok,List.map_toArray,List.map_cons,List.map_nil,hs,hx,hr]
 exact h v' w' h2 h3 h4
theorem rowE_one {w:World} {x:α} {b:Nat} {T:TypeId} (h:w.heap[b]?=some (.cells (E.f x).toArray T (0,0))):RowE E w (some ⟨b,0,none⟩) [x]:=by
 intro i hi
 have hi0:i=0:=by simp at hi;omega
 subst hi0
 refine⟨_,rfl,fun j hj=>?_⟩
 have:=blk_cell h j
 simp only[Nat.zero_mul,Nat.zero_add,List.getD_cons_zero]
 rw[Addr.add_lit,Nat.zero_add,this]
 simp
end Go.Proofs.YtiebppkhaiofeaaGreat.K
