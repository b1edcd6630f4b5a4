/- Part of the proof of TopStarver: what functions of the program do. -/
import Derived.Deep.RegionWith
import Derived.Test.YtiebppkhaiofeaaGreatS02
set_option maxHeartbeats 4000000
set_option maxRecDepth 100000
set_option linter.unusedVariables false
set_option linter.unusedSimpArgs false
namespace Go.Proofs.YtiebppkhaiofeaaGreat.K
open Go.RowKit Go.Proofs.YtiebppkhaiofeaaGreatW.PrintWords Go.Proofs.YtiebppkhaiofeaaGreat.S
theorem frz_alloc' {w:Go.World} {b i:Nat} (h:b < w.heap.size) (o:Obj):(w.alloc o).frozen? ⟨b,i,none⟩=w.frozen? ⟨b,i,none⟩:=(below_alloc (Below.refl _ w) o).frozen (p:=⟨b,i,none⟩) h
attribute [local go_sem] World.cell?_alloc_some frz_alloc'
theorem info47:(Tryz.prog.info? 47).map (fun i=>(i.zero,i.size,i.bytes))=some (some (.agg #[.int .i64 0,.int .i64 0,.int .i64 0,.int .i64 0,.int .i64 0,.int .i64 0,.bool false,.int .i64 0,.bool false,.bool false,.int .i64 0]),11,80):=by kernel_rfl
def letE:El Let where
 f:=letC
 d:=let0
 k:=11
 T:=47
 S:=39
 bys:=80
 z:=.agg #[.int .i64 0,.int .i64 0,.int .i64 0,.int .i64 0,.int .i64 0,.int .i64 0,.bool false,.int .i64 0,.bool false,.bool false,.int .i64 0]
 len:=fun _=>rfl
 one:=by
  intro l u hu
  simp only[letC,List.mem_cons,List.not_mem_nil,or_false] at hu
  rcases hu with rfl | rfl | rfl | rfl | rfl | rfl | rfl | rfl | rfl | rfl | rfl <;> rfl
 pos:=by decide
 hS:=Tryz.underlying39
 info:=info47
 hz:=rfl
 hb:=by decide
def spN (k s b q wh:Int) (n:Nat):List Let:=(List.range n).map fun(i:Nat)=>⟨k,s,i,b,q,wh,false,b0⟩
def entV (e:Ent):Value:=.agg #[.int .i64 e.kind,.int .i64 e.a,.int .i64 e.b,.int .i64 e.c,.int .i64 e.d]
def drwV (d:Drw):Value:=.agg #[.int .i64 d.x,.int .i64 d.y,.int .i64 d.z]
def repV (r:Int×Bool×Bool):Value:=.tuple #[.int .i64 r.1,.bool r.2.1,.bool r.2.2]
theorem legal_any (c:Cfg) (e:Ent) (w:Go.World):Calls Tryz.prog 25 #[cfgV c,entV e] w (RV (.bool (e.legal c)) w):=by
 obtain⟨nn,b,t,se,wa,ca,wt,tr,po⟩:=c
 obtain⟨k,a,eb,ec,ed⟩:=e
 simp only[cfgV,entV]
 have hk:k=1∨k=2∨k=3∨(k≠1/\k≠2/\k≠3):=by omega
 rcases hk with rfl | rfl | rfl | ⟨k1,k2,k3⟩
 case inr.inr.inr =>
  have j1:(k == 1)=false:=by simpa using k1
  have j2:(k == 2)=false:=by simpa using k2
  have j3:(k == 3)=false:=by simpa using k3
  have K:=AS (And.intro k1 (And.intro k2 k3))
  clear k1 k2 k3
  go_enter Tryz.func25,Tryz.ntmps25
  go_wp2
  go_ret
  exact RV.of (by have h:=K.out;simp[Ent.legal,h.1,h.2.1,h.2.2]) (by repeat (with_reducible first | exact Below.refl _ _ | apply below_alloc | apply Below.drew))
 all_goals
  go_enter Tryz.func25,Tryz.ntmps25
  go_wp2
  all_goals
   go_ret
   exact RV.of (by simp[Ent.legal, *] <;> omega) (by repeat (with_reducible first | exact Below.refl _ _ | apply below_alloc | apply Below.drew))
theorem reply_any (po c:Int) (o h:Bool) (d:Int) (wr:Bool) (x y z:Int) (w:Go.World):Calls Tryz.prog 121 #[.int .i64 po,.agg #[.int .i64 c,.bool o,.bool h,.int .i64 d],.bool wr,drwV ⟨x,y,z⟩] w (RV (repV (reply po ⟨c,o,h,d⟩ wr ⟨x,y,z⟩)) w):=by
 simp only[drwV]
 have hp:po=2∨(po≠2/\po≠1)∨po=1:=by omega
 rcases hp with rfl | ⟨p2,p1⟩ | rfl
 ·rw[show reply 2 ⟨c,o,h,d⟩ wr ⟨x,y,z⟩=(x,bitOf y 0,bitOf y 1) from rfl]
  go_enter Tryz.func121,Tryz.ntmps121
  go_wp2_with fail
  go_region_with (go_at_call 144;refine(bit_any _ _ _).mono ?_;rintro e w1 ⟨rfl,rfl⟩)
  all_goals
   go_wp2
   exact bodyPost_ret (v:=repV (x,bitOf y 0,bitOf y 1)) (by simp[results,Tryz.results121,go_sem,repV]) rfl ⟨rfl,by repeat (with_reducible first | exact Below.refl _ _ | apply below_alloc | apply Below.drew)⟩
 ·rw[show reply po ⟨c,o,h,d⟩ wr ⟨x,y,z⟩=(0,false,false) by simp[reply,p1,p2]]
  have j1:(po == 2)=false:=by simpa using p2
  have j2:(po != 1)=true:=by simpa using p1
  clear p1 p2
  go_enter Tryz.func121,Tryz.ntmps121
  go_wp2
  exact bodyPost_ret (v:=repV (0,false,false)) (by simp[results,Tryz.results121,go_sem,repV]) rfl ⟨rfl,by repeat (with_reducible first | exact Below.refl _ _ | apply below_alloc | apply Below.drew)⟩
 ·cases wr
  ·cases o
   ·rw[show reply 1 ⟨c,false,h,d⟩ false ⟨x,y,z⟩=(0,false,false) from rfl]
    go_enter Tryz.func121,Tryz.ntmps121
    go_wp2
    exact bodyPost_ret (v:=repV (0,false,false)) (by simp[results,Tryz.results121,go_sem,repV]) rfl ⟨rfl,by repeat (with_reducible first | exact Below.refl _ _ | apply below_alloc | apply Below.drew)⟩
   ·rw[show reply 1 ⟨c,true,h,d⟩ false ⟨x,y,z⟩=(1,decide (c < 2),true) from rfl]
    go_enter Tryz.func121,Tryz.ntmps121
    go_wp2_with fail
    go_region
    all_goals
     (try go_wp2)
     exact bodyPost_ret (v:=repV (1,decide (c < 2),true)) (by simp[results,Tryz.results121,go_sem,repV]) rfl ⟨rfl,by repeat (with_reducible first | exact Below.refl _ _ | apply below_alloc | apply Below.drew)⟩
  ·rw[show reply 1 ⟨c,o,h,d⟩ true ⟨x,y,z⟩=(c,true,o) from rfl]
   go_enter Tryz.func121,Tryz.ntmps121
   go_wp2_with fail
   go_region
   all_goals
    (try go_wp2)
    exact bodyPost_ret (v:=repV (c,true,o)) (by simp[results,Tryz.results121,go_sem,repV]) rfl ⟨rfl,by repeat (with_reducible first | exact Below.refl _ _ | apply below_alloc | apply Below.drew)⟩
theorem frz_alloc {w:Go.World} {b i:Nat} (h:b < w.heap.size) (o:Obj):(w.alloc o).frozen? ⟨b,i,none⟩=w.frozen? ⟨b,i,none⟩:=(below_alloc (Below.refl _ w) o).frozen (p:=⟨b,i,none⟩) h
attribute [local go_sem] World.cell?_alloc_some frz_alloc
def procC (c:Cfg) (p:S.Proc):Array Value:=#[.int .i64 p.left,.int .i64 p.tried,.bool p.over,.int .i64 c.wait,.int .i64 c.tries,.int .i64 p.number,.int .i64 p.op.block,.bool p.op.write,.int .i64 p.op.value,.bool p.busy]
def ProcAt (c:Cfg) (p:S.Proc) (b:Nat) (w:Go.World):Prop:=w.heap[b]?=some (.cells (procC c p) 183 (0,0))
theorem ProcAt.keep {c:Cfg} {p:S.Proc} {b:Nat} {w w':Go.World} {F:List Nat} (h:ProcAt c p b w) (hk:Keeps F w w') (hb:b∉F):ProcAt c p b w':=hk.at_ h hb
def ProcP (c:Cfg) (v:Value) (p':S.Proc) (b:Nat) (w:Go.World) (e:Ending) (w':Go.World):Prop:=e=.returned v/\ProcAt c p' b w'/\Keeps [b] w w'
theorem pending_any {c:Cfg} {p:S.Proc} {b:Nat} {w:Go.World} (hp:ProcAt c p b w):Calls Tryz.prog 69 #[.pointer (some ⟨b,0,none⟩)] w (RV (.tuple #[opV p.op,.bool p.busy]) w):=by
 obtain⟨lf,td,ov,nu,⟨ob,ow,va⟩,bz⟩:=p
 unfold ProcAt at hp
 have c0:=cw hp 0 (v:=.int .i64 lf)
 have c1:=cw hp 1 (v:=.int .i64 td)
 have c2:=cw hp 2 (v:=.bool ov)
 have c3:=cw hp 3 (v:=.int .i64 c.wait)
 have c4:=cw hp 4 (v:=.int .i64 c.tries)
 have c5:=cw hp 5 (v:=.int .i64 nu)
 have c6:=cw hp 6 (v:=.int .i64 ob)
 have c7:=cw hp 7 (v:=.bool ow)
 have c8:=cw hp 8 (v:=.int .i64 va)
 have c9:=cw hp 9 (v:=.bool bz)
 clear hp
 go_enter Tryz.func69,Tryz.ntmps69
 go_wp2_with fail
 go_region
 all_goals
  go_wp2
  exact bodyPost_ret (v:=.tuple #[opV ⟨ob,ow,va⟩,.bool bz]) (by simp[results,Tryz.results69,go_sem,opV]) rfl ⟨rfl,by repeat (first | exact Below.refl _ _ | apply below_alloc | apply Below.drew | refine Below.setCell ?_ (by dsimp only;omega) _)⟩
theorem pinned_any {c:Cfg} {p:S.Proc} {b:Nat} {w:Go.World} (hp:ProcAt c p b w):Calls Tryz.prog 132 #[.pointer (some ⟨b,0,none⟩)] w (RQ (.int .i64 p.pinned) w):=by
 obtain⟨lf,td,ov,nu,⟨ob,ow,va⟩,bz⟩:=p
 unfold ProcAt at hp
 have c0:=cw hp 0 (v:=.int .i64 lf)
 have c1:=cw hp 1 (v:=.int .i64 td)
 have c2:=cw hp 2 (v:=.bool ov)
 have c3:=cw hp 3 (v:=.int .i64 c.wait)
 have c4:=cw hp 4 (v:=.int .i64 c.tries)
 have c5:=cw hp 5 (v:=.int .i64 nu)
 have c6:=cw hp 6 (v:=.int .i64 ob)
 have c7:=cw hp 7 (v:=.bool ow)
 have c8:=cw hp 8 (v:=.int .i64 va)
 have c9:=cw hp 9 (v:=.bool bz)
 clear hp
 cases bz
 all_goals
  go_enter Tryz.func132,Tryz.ntmps132
  go_wp2
  go_ret
  exact RQ.of (by simp[S.Proc.pinned])
theorem procNew_any (c:Cfg) (w:Go.World):Calls Tryz.prog 50 #[.int .i64 c.wait,.int .i64 c.tries] w fun e w'=>e=.returned (.pointer (some ⟨w.heap.size,0,none⟩))/\w'=w.alloc (.cells (procC c S.Proc.new) 183):=by
 go_enter Tryz.func50,Tryz.ntmps50
 go_wp2
 go_ret
 exact⟨rfl,rfl⟩
theorem procCopy_any {c:Cfg} {p:S.Proc} {b:Nat} {w:Go.World} (hp:ProcAt c p b w):Calls Tryz.prog 80 #[.pointer (some ⟨b,0,none⟩)] w fun e w'=>∃ b',e=.returned (.pointer (some ⟨b',0,none⟩))/\w.heap.size≤b'/\ProcAt c p b' w'/\Below w.heap.size w w':=by
 obtain⟨lf,td,ov,nu,⟨ob,ow,va⟩,bz⟩:=p
 unfold ProcAt at hp
 have c0:=cw hp 0 (v:=.int .i64 lf)
 have c1:=cw hp 1 (v:=.int .i64 td)
 have c2:=cw hp 2 (v:=.bool ov)
 have c3:=cw hp 3 (v:=.int .i64 c.wait)
 have c4:=cw hp 4 (v:=.int .i64 c.tries)
 have c5:=cw hp 5 (v:=.int .i64 nu)
 have c6:=cw hp 6 (v:=.int .i64 ob)
 have c7:=cw hp 7 (v:=.bool ow)
 have c8:=cw hp 8 (v:=.int .i64 va)
 have c9:=cw hp 9 (v:=.bool bz)
 clear hp
 go_enter Tryz.func80,Tryz.ntmps80
 go_wp2
 go_ret
 exact⟨_,rfl,Nat.le_refl _,blk_new w _,below_alloc (Below.refl _ _) _⟩
theorem finish_any {c:Cfg} {p:S.Proc} {b:Nat} {w:Go.World} (hp:ProcAt c p b w):Calls Tryz.prog 111 #[.pointer (some ⟨b,0,none⟩)] w (ProcP c (.tuple #[.int .i64 p.finish.2.1,.bool p.finish.2.2]) p.finish.1 b w):=by
 obtain⟨lf,td,ov,nu,⟨ob,ow,va⟩,bz⟩:=p
 unfold ProcAt at hp
 have c0:=cw hp 0 (v:=.int .i64 lf)
 have c1:=cw hp 1 (v:=.int .i64 td)
 have c2:=cw hp 2 (v:=.bool ov)
 have c3:=cw hp 3 (v:=.int .i64 c.wait)
 have c4:=cw hp 4 (v:=.int .i64 c.tries)
 have c5:=cw hp 5 (v:=.int .i64 nu)
 have c6:=cw hp 6 (v:=.int .i64 ob)
 have c7:=cw hp 7 (v:=.bool ow)
 have c8:=cw hp 8 (v:=.int .i64 va)
 have c9:=cw hp 9 (v:=.bool bz)
 have z0:=blk_frozen hp 0
 have z1:=blk_frozen hp 1
 have z2:=blk_frozen hp 2
 have z3:=blk_frozen hp 3
 have z4:=blk_frozen hp 4
 have z5:=blk_frozen hp 5
 have z6:=blk_frozen hp 6
 have z7:=blk_frozen hp 7
 have z8:=blk_frozen hp 8
 have z9:=blk_frozen hp 9
 have HP:=AS hp
 clear hp
 cases bz
 ·go_enter Tryz.func111,Tryz.ntmps111
  go_wp2
  go_ret2
  exact⟨rfl,HP.out,Keeps.refl _ _⟩
 ·go_enter Tryz.func111,Tryz.ntmps111
  go_wp2_with fail
  all_goals (try go_region)
  all_goals go_wp2
  go_ret2
  exact⟨rfl,(blk_set (blk_set (blk_set (blk_set HP.out _ _) _ _) _ _) _ _).trans (by simp[procC,S.Proc.finish,op0]),by repeat (with_reducible first | exact Keeps.refl _ _ | refine Keeps.set ?_ (.inl (by simp)) _ _ | apply Keeps.alloc | apply Keeps.drew)⟩
theorem issue_any {c:Cfg} {p:S.Proc} {b:Nat} {w:Go.World} (hp:ProcAt c p b w) (op:S.Op):Calls Tryz.prog 83 #[.pointer (some ⟨b,0,none⟩),opV op] w (ProcP c (.bool (p.issue c op).2) (p.issue c op).1 b w):=by
 obtain⟨pb,pw,pv⟩:=op
 simp only[opV]
 obtain⟨lf,td,ov,nu,⟨ob,ow,va⟩,bz⟩:=p
 unfold ProcAt at hp
 have c0:=cw hp 0 (v:=.int .i64 lf)
 have c1:=cw hp 1 (v:=.int .i64 td)
 have c2:=cw hp 2 (v:=.bool ov)
 have c3:=cw hp 3 (v:=.int .i64 c.wait)
 have c4:=cw hp 4 (v:=.int .i64 c.tries)
 have c5:=cw hp 5 (v:=.int .i64 nu)
 have c6:=cw hp 6 (v:=.int .i64 ob)
 have c7:=cw hp 7 (v:=.bool ow)
 have c8:=cw hp 8 (v:=.int .i64 va)
 have c9:=cw hp 9 (v:=.bool bz)
 have z0:=blk_frozen hp 0
 have z1:=blk_frozen hp 1
 have z2:=blk_frozen hp 2
 have z3:=blk_frozen hp 3
 have z4:=blk_frozen hp 4
 have z5:=blk_frozen hp 5
 have z6:=blk_frozen hp 6
 have z7:=blk_frozen hp 7
 have z8:=blk_frozen hp 8
 have z9:=blk_frozen hp 9
 have HP:=AS hp
 have hb:=blk_lt hp
 clear hp
 cases bz
 ·go_enter Tryz.func83,Tryz.ntmps83
  go_wp2_with fail
  all_goals (try go_region)
  all_goals (try go_wp2_with fail)
  refine(start_any _ _).mono ?_
  rintro e w1 ⟨rfl,hbl⟩
  have X1:=AS (blk_below (blk_alloc (blk_set (blk_set (blk_set (blk_set (blk_set HP.out 6 (.int .i64 pb)) 7 (.bool pw)) 8 (.int .i64 pv)) 9 (.bool true)) 5 (.int .i64 (wrap64 (nu+1)))) (.cells #[.int .i64 pb,.bool pw,.int .i64 pv] 50)) hbl)
  have K1:=AS (((((((Keeps.refl [b] w).set (g:=b) (.inl (by simp)) 6 (.int .i64 pb)).set (g:=b) (.inl (by simp)) 7 (.bool pw)).set (g:=b) (.inl (by simp)) 8 (.int .i64 pv)).set (g:=b) (.inl (by simp)) 9 (.bool true)).set (g:=b) (.inl (by simp)) 5 (.int .i64 (wrap64 (nu+1)))).alloc (.cells #[.int .i64 pb,.bool pw,.int .i64 pv] 50) |>.trans (Keeps.below [] hbl) (by simp))
  clear hbl
  have y0:=cw X1.out 0 (v:=.int .i64 lf)
  have y1:=cw X1.out 1 (v:=.int .i64 td)
  have y2:=cw X1.out 2 (v:=.bool ov)
  have q0:=blk_frozen X1.out 0
  have q1:=blk_frozen X1.out 1
  have q2:=blk_frozen X1.out 2
  go_wp2
  go_ret
  have hk:=((K1.out.set (g:=b) (.inl (by simp)) 0 (.int .i64 (max c.wait 1))).set (g:=b) (.inl (by simp)) 1 (.int .i64 0)).set (g:=b) (.inl (by simp)) 2 (.bool false)
  refine⟨by simp[S.Proc.issue],?_,?_⟩
  rotate_left
  ·skip
   with_reducible exact hk
  have hf:=(blk_set (blk_set (blk_set X1.out 0 (.int .i64 (max c.wait 1))) 1 (.int .i64 0)) 2 (.bool false))
  simp only[ProcAt]
  refine Eq.trans hf ?_
  simp[procC,S.Proc.issue]
 ·go_enter Tryz.func83,Tryz.ntmps83
  go_wp2
  go_ret
  exact⟨rfl,blk_alloc HP.out _,by repeat (with_reducible first | exact Keeps.refl _ _ | refine Keeps.set ?_ (.inl (by simp)) _ _ | apply Keeps.alloc | apply Keeps.drew)⟩
def dblR (k i n:Int):Int:=dblN (k - i).toNat n 1048576
theorem dblR_end {k i n:Int} (h:¬ i < k) (hn:n≤1048576):dblR k i n=n:=by
 unfold dblR;rw[show(k - i).toNat=0 by omega];simp only[dblN];omega
theorem dblR_step {k i n:Int} (h:i < k):dblR k i n=if n > 1048576 - n then 1048576 else dblR k (i+1) (n+n):=by
 unfold dblR;rw[show(k - i).toNat=(k - (i+1)).toNat+1 by omega];rfl
theorem double_any (n t:Int) (w:Go.World) (h0:0≤n) (h1:n≤64):Calls Tryz.prog 155 #[.int .i64 n,.int .i64 t,.int .i64 1048576] w (RQ (.int .i64 (double n t 1048576)) w):=by
 have hd:=AS (show double n t 1048576=dblR (min (max t 0) 64) 0 n by unfold double dblR;rw[show max n 0=n by omega,show max (1048576:Int) 0=1048576 by omega];simp)
 have hk:(t < 0/\min (max t 0) 64=0)∨(0≤t/\t≤64/\min (max t 0) 64=t)∨(64 < t/\min (max t 0) 64=64):=by omega
 have hn:¬ n < 0:=by omega
 rw[hd.out]
 rcases hk with ⟨hk1,hk⟩ | ⟨hk1,hk2,hk⟩ | ⟨hk1,hk⟩
 ·rw[hk]
  clear hk hd
  go_enter Tryz.func155,Tryz.ntmps155
  go_wp2
  go_loop [0,14] (fun v0 v14=>∃ m i:Int,v0=.int .i64 m/\v14=.int .i64 i/\0≤i/\i≤64/\i≤0/\0≤m/\m≤1048576/\Aside0 (dblR 0 i m=dblR 0 0 n)) (fun _ v14=>(64 - intOf v14).toNat)
  case atStart=>exact⟨n,0,rfl,rfl,by omega,by omega,by omega,by omega,by omega,⟨rfl⟩⟩
  case round =>
   obtain⟨m,i,rfl,rfl,hi0,hi1,hi2,hm0,hm1,R⟩:=hrel
   by_cases c1:i < 0
   ·have hs:=dblR_step (n:=m) c1
    rw[R.out] at hs
    by_cases c3:m > 1048576 - m
    ·rw[if_pos c3] at hs
     have HS:=AS hs
     clear hs R
     go_wp2
     go_ret
     exact RQ.of (by rw[HS.out];rfl)
    ·rw[if_neg c3] at hs
     have HS:=AS hs
     clear hs R
     go_wp2
     go_round
     case rel=>exact⟨m+m,i+1,rfl,rfl,by omega,by omega,by omega,by omega,by omega,⟨HS.out.symm⟩⟩
     case measure=>simp[intOf];omega
   ·have hs:=dblR_end (n:=m) c1 hm1
    rw[R.out] at hs
    have HS:=AS hs
    clear hs R
    go_wp2
    all_goals
     go_ret
     exact RQ.of (by rw[HS.out];first | rfl | (congr 1;omega))
 ·rw[hk]
  clear hk hd
  go_enter Tryz.func155,Tryz.ntmps155
  go_wp2
  go_loop [0,14] (fun v0 v14=>∃ m i:Int,v0=.int .i64 m/\v14=.int .i64 i/\0≤i/\i≤64/\i≤t/\0≤m/\m≤1048576/\Aside0 (dblR t i m=dblR t 0 n)) (fun _ v14=>(64 - intOf v14).toNat)
  case atStart=>exact⟨n,0,rfl,rfl,by omega,by omega,by omega,by omega,by omega,⟨rfl⟩⟩
  case round =>
   obtain⟨m,i,rfl,rfl,hi0,hi1,hi2,hm0,hm1,R⟩:=hrel
   by_cases c1:i < t
   ·have hs:=dblR_step (n:=m) c1
    rw[R.out] at hs
    by_cases c3:m > 1048576 - m
    ·rw[if_pos c3] at hs
     have HS:=AS hs
     clear hs R
     go_wp2
     go_ret
     exact RQ.of (by rw[HS.out];rfl)
    ·rw[if_neg c3] at hs
     have HS:=AS hs
     clear hs R
     go_wp2
     go_round
     case rel=>exact⟨m+m,i+1,rfl,rfl,by omega,by omega,by omega,by omega,by omega,⟨HS.out.symm⟩⟩
     case measure=>simp[intOf];omega
   ·have hs:=dblR_end (n:=m) c1 hm1
    rw[R.out] at hs
    have HS:=AS hs
    clear hs R
    go_wp2
    all_goals
     go_ret
     exact RQ.of (by rw[HS.out];first | rfl | (congr 1;omega))
 ·rw[hk]
  clear hk hd
  go_enter Tryz.func155,Tryz.ntmps155
  go_wp2
  go_loop [0,14] (fun v0 v14=>∃ m i:Int,v0=.int .i64 m/\v14=.int .i64 i/\0≤i/\i≤64/\i≤64/\0≤m/\m≤1048576/\Aside0 (dblR 64 i m=dblR 64 0 n)) (fun _ v14=>(64 - intOf v14).toNat)
  case atStart=>exact⟨n,0,rfl,rfl,by omega,by omega,by omega,by omega,by omega,⟨rfl⟩⟩
  case round =>
   obtain⟨m,i,rfl,rfl,hi0,hi1,hi2,hm0,hm1,R⟩:=hrel
   by_cases c1:i < 64
   ·have hs:=dblR_step (n:=m) c1
    rw[R.out] at hs
    by_cases c3:m > 1048576 - m
    ·rw[if_pos c3] at hs
     have HS:=AS hs
     clear hs R
     go_wp2
     go_ret
     exact RQ.of (by rw[HS.out];rfl)
    ·rw[if_neg c3] at hs
     have HS:=AS hs
     clear hs R
     go_wp2
     go_round
     case rel=>exact⟨m+m,i+1,rfl,rfl,by omega,by omega,by omega,by omega,by omega,⟨HS.out.symm⟩⟩
     case measure=>simp[intOf];omega
   ·have hs:=dblR_end (n:=m) c1 hm1
    rw[R.out] at hs
    have HS:=AS hs
    clear hs R
    go_wp2
    all_goals
     go_ret
     exact RQ.of (by rw[HS.out];first | rfl | (congr 1;omega))
def tickV (c:Cfg) (l t:Int) (o:Bool):Value :=
 if o then .tuple #[.agg #[.int .i64 l,.int .i64 t,.bool o],.int .i64 0]
 else if 1 < l then .tuple #[.agg #[.int .i64 (wrap64 (l - 1)),.int .i64 t,.bool false],.int .i64 0]
 else if t < c.tries then .tuple #[.agg #[.int .i64 (max (double c.wait (wrap64 (t+1)) 1048576) 1),.int .i64 (wrap64 (t+1)),.bool false],.int .i64 1]
 else .tuple #[.agg #[.int .i64 0,.int .i64 t,.bool true],.int .i64 2]
theorem ttick_any (c:Cfg) (l t:Int) (o:Bool) (w:Go.World) (h0:0≤c.wait) (h1:c.wait≤64):Calls Tryz.prog 138 #[.agg #[.int .i64 l,.int .i64 t,.bool o],.int .i64 c.wait,.int .i64 c.tries] w (RV (tickV c l t o) w):=by
 cases o
 ·by_cases c1:1 < l
  ·rw[show tickV c l t false=.tuple #[.agg #[.int .i64 (wrap64 (l - 1)),.int .i64 t,.bool false],.int .i64 0] by simp[tickV,c1]]
   go_enter Tryz.func138,Tryz.ntmps138
   go_wp2
   exact bodyPost_ret (v:=.tuple #[.agg #[.int .i64 (wrap64 (l - 1)),.int .i64 t,.bool false],.int .i64 0]) (by simp[results,Tryz.results138,go_sem]) rfl ⟨rfl,by repeat (with_reducible first | exact Below.refl _ _ | apply below_alloc | apply Below.drew)⟩
  ·by_cases c2:t < c.tries
   ·rw[show tickV c l t false=.tuple #[.agg #[.int .i64 (max (double c.wait (wrap64 (t+1)) 1048576) 1),.int .i64 (wrap64 (t+1)),.bool false],.int .i64 1] by simp[tickV,c1,c2]]
    have hdd:(double c.wait (wrap64 (t+1)) 1048576 < 1/\max (double c.wait (wrap64 (t+1)) 1048576) 1=1)∨(1≤double c.wait (wrap64 (t+1)) 1048576/\max (double c.wait (wrap64 (t+1)) 1048576) 1=double c.wait (wrap64 (t+1)) 1048576):=by omega
    rcases hdd with ⟨hd1,hd2⟩ | ⟨hd1,hd2⟩
    ·rw[hd2]
     clear hd2
     have HD:=AS hd1
     clear hd1
     go_enter Tryz.func138,Tryz.ntmps138
     go_wp2_with fail
     refine(double_any _ _ _ h0 h1).mono ?_
     rintro e w1 ⟨rfl,rfl⟩
     have hd1:=HD.out
     go_wp2
     exact bodyPost_ret (v:=.tuple #[.agg #[.int .i64 1,.int .i64 (wrap64 (t+1)),.bool false],.int .i64 1]) (by simp[results,Tryz.results138,go_sem]) rfl ⟨rfl,by repeat (with_reducible first | exact Below.refl _ _ | apply below_alloc | apply Below.drew)⟩
    ·rw[hd2]
     clear hd2
     have HD:=AS hd1
     clear hd1
     go_enter Tryz.func138,Tryz.ntmps138
     go_wp2_with fail
     refine(double_any _ _ _ h0 h1).mono ?_
     rintro e w1 ⟨rfl,rfl⟩
     have hd1:¬ double c.wait (wrap64 (t+1)) 1048576 < 1:=by have:=HD.out;omega
     go_wp2
     exact bodyPost_ret (v:=.tuple #[.agg #[.int .i64 (double c.wait (wrap64 (t+1)) 1048576),.int .i64 (wrap64 (t+1)),.bool false],.int .i64 1]) (by simp[results,Tryz.results138,go_sem]) rfl ⟨rfl,by repeat (with_reducible first | exact Below.refl _ _ | apply below_alloc | apply Below.drew)⟩
   ·rw[show tickV c l t false=.tuple #[.agg #[.int .i64 0,.int .i64 t,.bool true],.int .i64 2] by simp[tickV,c1,c2]]
    go_enter Tryz.func138,Tryz.ntmps138
    go_wp2_with fail
    all_goals (try go_region)
    all_goals (try go_wp2)
    exact bodyPost_ret (v:=.tuple #[.agg #[.int .i64 0,.int .i64 t,.bool true],.int .i64 2]) (by simp[results,Tryz.results138,go_sem]) rfl ⟨rfl,by repeat (with_reducible first | exact Below.refl _ _ | apply below_alloc | apply Below.drew)⟩
 ·rw[show tickV c l t true=.tuple #[.agg #[.int .i64 l,.int .i64 t,.bool true],.int .i64 0] from rfl]
  go_enter Tryz.func138,Tryz.ntmps138
  go_wp2
  exact bodyPost_ret (v:=.tuple #[.agg #[.int .i64 l,.int .i64 t,.bool true],.int .i64 0]) (by simp[results,Tryz.results138,go_sem]) rfl ⟨rfl,by repeat (with_reducible first | exact Below.refl _ _ | apply below_alloc | apply Below.drew)⟩
end Go.Proofs.YtiebppkhaiofeaaGreat.K
namespace Go.Proofs.YtiebppkhaiofeaaGreat.K
open Go.RowKit Go.Proofs.YtiebppkhaiofeaaGreatW.PrintWords Go.Proofs.YtiebppkhaiofeaaGreat.S Go.ChangeMaps Go.MapKept
abbrev Set_:=Nat->Prop
def KS (F:Set_) (w w':World):Prop:=w'.os=w.os/\w'.tape=w.tape/\w'.output=w.output/\w.heap.size≤w'.heap.size/\∀ i,i < w.heap.size->¬ F i->w'.heap[i]?=w.heap[i]?
def gr (F:Set_) (w:World):Set_:=fun x=>F x∨w.heap.size≤x
def nw (w:World):Set_:=fun x=>w.heap.size≤x
section
variable {F G H:Set_} {w w' a b c W:World}
theorem KS.refl (F:Set_) (w:World):KS F w w:=⟨rfl,rfl,rfl,Nat.le_refl _,fun _ _ _=>rfl⟩
theorem KS.size (h:KS F w w'):w.heap.size≤w'.heap.size:=h.2.2.2.1
theorem KS.at_ (h:KS F w w') {i:Nat} {o:Obj} (hi:w.heap[i]?=some o) (hF:¬ F i):w'.heap[i]?=some o:=(h.2.2.2.2 i (blk_lt hi) hF).trans hi
theorem KS.mono (h:KS F w w') (hs:∀ x,x < w.heap.size->F x->G x):KS G w w' :=
 ⟨h.1,h.2.1,h.2.2.1,h.2.2.2.1,fun i hi hG=>h.2.2.2.2 i hi (fun hF=>hG (hs i hi hF))⟩
theorem KS.trans (h:KS F a b) (k:KS G b c) (hs:∀ x,x < a.heap.size->G x->F x):KS F a c :=
 ⟨k.1.trans h.1,k.2.1.trans h.2.1,k.2.2.1.trans h.2.2.1,Nat.le_trans h.size k.size,fun i hi hF=>(k.2.2.2.2 i (Nat.lt_of_lt_of_le hi h.size) (fun hG=>hF (hs i hi hG))).trans (h.2.2.2.2 i hi hF)⟩
theorem KS.below (F:Set_) (h:Below w.heap.size w w'):KS F w w':=⟨h.os,h.tape,h.output,h.size,fun i hi _=>h.block i hi⟩
theorem KS.andBelow (h:KS F a b) (k:Below b.heap.size b c):KS F a c:=h.trans (KS.below F k) (fun _ _ h=>h)
theorem KS.toBelow {B:Nat} (h:KS F w w') (hF:∀ x,F x->B≤x) (hs:B≤w.heap.size):Below B w w' :=
 ⟨h.1,h.2.1,h.2.2.1,h.2.2.2.1,fun i hi=>h.2.2.2.2 i (by omega) (fun hx=>by have:=hF i hx;omega)⟩
theorem KS.keeps {L:List Nat} (h:Keeps L w w'):KS (fun x=>x∈L) w w':=h
theorem KS.ofKeeps {L:List Nat} (h:Keeps L w w') (hs:∀ x∈L,F x):KS F w w':=KS.mono (F:=fun x=>x∈L) h (fun x _ hx=>hs x hx)
theorem KS.set (h:KS F w W) {g:Nat} (hg:F g∨w.heap.size≤g) (i:Nat) (u:Value):KS F w (W.setCell ⟨g,i,none⟩ u) :=
 ⟨h.1,h.2.1,h.2.2.1,by simpa using h.2.2.2.1,fun j hj hF=>(Below.heap_setCell W ⟨g,i,none⟩ u j (show j≠g by rintro rfl;rcases hg with h1 | h1;exact hF h1;omega)).trans (h.2.2.2.2 j hj hF)⟩
theorem KS.block (h:KS F w W) {g:Nat} (hg:F g∨w.heap.size≤g) (o:Obj):KS F w (setBlock W g o) :=
 ⟨h.1,h.2.1,h.2.2.1,by simpa [setBlock] using h.2.2.2.1,fun j hj hF=>by
  have hne:j≠g:=by rintro rfl;rcases hg with h1 | h1;exact hF h1;omega
  show(W.heap.setIfInBounds g o)[j]?=_
  rw[Array.getElem?_setIfInBounds_ne (Ne.symm hne)]
  exact h.2.2.2.2 j hj hF⟩
theorem KS.alloc (h:KS F w W) (o:Obj):KS F w (W.alloc o):=h.andBelow (below_alloc (Below.refl _ _) o)
theorem KS.drew (h:KS F w W):KS F w W.drew:=h
theorem KS.drewN (h:KS F w W) (n:Nat):KS F w (W.drewN n):=h
end
section
variable {α:Type} {E:El α} {xs:List α} {v:Value} {w w':World} {G:Set_}
theorem OwnE.ks (h:OwnE E v xs w) (hk:KS G w w') (hF:∀ b∈foot v,¬ G b):OwnE E v xs w':=h.at_ fun b hb=>hk.2.2.2.2 b (h.lt b hb) (hF b hb)
theorem RowE.ks {A:Option Addr} (h:RowE E w A xs) (hk:KS G w w') (hF:∀ ad,A=some ad->¬ G ad.block):RowE E w' A xs:=by
 intro i hi
 obtain⟨ad,e,hc⟩:=h i hi
 refine⟨ad,e,fun j hj=>?_⟩
 have h1:=hc j hj
 have h2:(E.f (xs.getD i E.d))[j]?=some ((E.f (xs.getD i E.d))[j]'(by rw[E.len];exact hj)):=List.getElem?_eq_getElem _
 rw[h2] at h1 ⊢
 have hlt:=World.block_lt_of_cell? w _ h1
 have hb:(ad.add (i * E.k+j)).block=ad.block:=by unfold Addr.add;split <;> rfl
 refine Eq.trans ?_ h1
 have:=hk.2.2.2.2 ad.block (by rw[<- hb];exact hlt) (hF ad e)
 simp only[World.cell?,hb,this]
end
theorem info45:(Tryz.prog.info? 45).map (fun i=>(i.zero,i.size,i.bytes))=some (some (.agg #[.int .i64 0,.bool false,.bool false,.int .i64 0]),4,24):=by kernel_rfl
def bunE:El Bun where
 f:=bunC
 d:=b0
 k:=4
 T:=45
 S:=38
 bys:=24
 z:=.agg #[.int .i64 0,.bool false,.bool false,.int .i64 0]
 len:=fun _=>rfl
 one:=by
  intro l u hu
  simp only[bunC,List.mem_cons,List.not_mem_nil,or_false] at hu
  rcases hu with rfl | rfl | rfl | rfl <;> rfl
 pos:=by decide
 hS:=Tryz.underlying38
 info:=info45
 hz:=rfl
 hb:=by decide
theorem info3:(Tryz.prog.info? 3).map (fun i=>(i.zero,i.size,i.bytes))=some (some (.int .i64 0),1,8):=by kernel_rfl
def intE:El Int where
 f:=fun n=>[.int .i64 n]
 d:=0
 k:=1
 T:=3
 S:=57
 bys:=8
 z:=.int .i64 0
 len:=fun _=>rfl
 one:=by
  intro l u hu
  simp only[List.mem_cons,List.not_mem_nil,or_false] at hu
  rcases hu with rfl;rfl
 pos:=by decide
 hS:=Tryz.underlying57
 info:=info3
 hz:=rfl
 hb:=by decide
def doneC (d:S.Done):List Value:=[.int .i64 d.node,.int .i64 d.number,.int .i64 d.op.block,.bool d.op.write,.int .i64 d.op.value,.int .i64 d.value,.int .i64 d.step]
def done0:S.Done:=⟨0,0,op0,0,0⟩
theorem info59:(Tryz.prog.info? 59).map (fun i=>(i.zero,i.size,i.bytes))=some (some (.agg #[.int .i64 0,.int .i64 0,.int .i64 0,.bool false,.int .i64 0,.int .i64 0,.int .i64 0]),7,56):=by kernel_rfl
def doneE:El S.Done where
 f:=doneC
 d:=done0
 k:=7
 T:=59
 S:=34
 bys:=56
 z:=.agg #[.int .i64 0,.int .i64 0,.int .i64 0,.bool false,.int .i64 0,.int .i64 0,.int .i64 0]
 len:=fun _=>rfl
 one:=by
  intro l u hu
  simp only[doneC,List.mem_cons,List.not_mem_nil,or_false] at hu
  rcases hu with rfl | rfl | rfl | rfl | rfl | rfl | rfl <;> rfl
 pos:=by decide
 hS:=Tryz.underlying34
 info:=info59
 hz:=rfl
 hb:=by decide
def lineC (l:S.Line):List Value:=[.int .i64 l.block,.int .i64 l.bun.count,.bool l.bun.owner,.bool l.bun.has,.int .i64 l.bun.data]
theorem info61:(Tryz.prog.info? 61).map (fun i=>(i.zero,i.size,i.bytes))=some (some (.agg #[.int .i64 0,.int .i64 0,.bool false,.bool false,.int .i64 0]),5,32):=by kernel_rfl
def lineE:El S.Line where
 f:=lineC
 d:=⟨0,b0⟩
 k:=5
 T:=61
 S:=48
 bys:=32
 z:=.agg #[.int .i64 0,.int .i64 0,.bool false,.bool false,.int .i64 0]
 len:=fun _=>rfl
 one:=by
  intro l u hu
  simp only[lineC,List.mem_cons,List.not_mem_nil,or_false] at hu
  rcases hu with rfl | rfl | rfl | rfl | rfl <;> rfl
 pos:=by decide
 hS:=Tryz.underlying48
 info:=info61
 hz:=rfl
 hb:=by decide
def actC (a:S.Act):List Value:=[.int .i64 a.block,.int .i64 a.node,.int .i64 a.seq]
def actV (a:S.Act):Value:=.agg #[.int .i64 a.block,.int .i64 a.node,.int .i64 a.seq]
theorem info55:(Tryz.prog.info? 55).map (fun i=>(i.zero,i.size,i.bytes))=some (some (.agg #[.int .i64 0,.int .i64 0,.int .i64 0]),3,24):=by kernel_rfl
def actE:El S.Act where
 f:=actC
 d:=act0
 k:=3
 T:=55
 S:=51
 bys:=24
 z:=.agg #[.int .i64 0,.int .i64 0,.int .i64 0]
 len:=fun _=>rfl
 one:=by
  intro l u hu
  simp only[actC,List.mem_cons,List.not_mem_nil,or_false] at hu
  rcases hu with rfl | rfl | rfl <;> rfl
 pos:=by decide
 hS:=Tryz.underlying51
 info:=info55
 hz:=rfl
 hb:=by decide
def entC (e:Ent):List Value:=[.int .i64 e.kind,.int .i64 e.a,.int .i64 e.b,.int .i64 e.c,.int .i64 e.d]
theorem info33:(Tryz.prog.info? 33).map (fun i=>(i.zero,i.size,i.bytes))=some (some (.agg #[.int .i64 0,.int .i64 0,.int .i64 0,.int .i64 0,.int .i64 0]),5,40):=by kernel_rfl
def entE:El Ent where
 f:=entC
 d:=⟨0,0,0,0,0⟩
 k:=5
 T:=33
 S:=24
 bys:=40
 z:=.agg #[.int .i64 0,.int .i64 0,.int .i64 0,.int .i64 0,.int .i64 0]
 len:=fun _=>rfl
 one:=by
  intro l u hu
  simp only[entC,List.mem_cons,List.not_mem_nil,or_false] at hu
  rcases hu with rfl | rfl | rfl | rfl | rfl <;> rfl
 pos:=by decide
 hS:=Tryz.underlying24
 info:=info33
 hz:=rfl
 hb:=by decide
theorem info94:(Tryz.prog.info? 94).map (fun i=>(i.zero,i.size,i.bytes))=some (some (.pointer none),1,8):=by kernel_rfl
def ptrE:El (Option Nat) where
 f:=fun n=>[.pointer (n.map fun b=>⟨b,0,none⟩)]
 d:=none
 k:=1
 T:=94
 S:=88
 bys:=8
 z:=.pointer none
 len:=fun _=>rfl
 one:=by
  intro l u hu
  simp only[List.mem_cons,List.not_mem_nil,or_false] at hu
  rcases hu with rfl;rfl
 pos:=by decide
 hS:=Tryz.underlying88
 info:=info94
 hz:=rfl
 hb:=by decide
structure PlaceR where
 lines:Value
 busy:Bool
 op:S.Op
 acts:Value
 h1:lines.oneCell'=true
 h2:acts.oneCell'=true
def placeC (p:PlaceR):List Value:=[p.lines,.bool p.busy,.int .i64 p.op.block,.bool p.op.write,.int .i64 p.op.value,p.acts]
theorem info53:(Tryz.prog.info? 53).map (fun i=>(i.zero,i.size,i.bytes))=some (some (.agg #[.slice none 0 0,.bool false,.int .i64 0,.bool false,.int .i64 0,.slice none 0 0]),6,80):=by kernel_rfl
def placeE:El PlaceR where
 f:=placeC
 d:=⟨.slice none 0 0,false,op0,.slice none 0 0,rfl,rfl⟩
 k:=6
 T:=53
 S:=37
 bys:=80
 z:=.agg #[.slice none 0 0,.bool false,.int .i64 0,.bool false,.int .i64 0,.slice none 0 0]
 len:=fun _=>rfl
 one:=by
  intro p u hu
  simp only[placeC,List.mem_cons,List.not_mem_nil,or_false] at hu
  rcases hu with rfl | rfl | rfl | rfl | rfl | rfl
  ·exact p.h1
  ·rfl
  ·rfl
  ·rfl
  ·rfl
  ·exact p.h2
 pos:=by decide
 hS:=Tryz.underlying37
 info:=info53
 hz:=rfl
 hb:=by decide
structure ARowR where
 r:ARow
 q:Value
 h:q.oneCell'=true
 hk:r.knows.length=64
def arowC (p:ARowR):List Value:=[.int .i64 p.r.seq,.int .i64 p.r.active.block,.int .i64 p.r.active.node,.int .i64 p.r.active.seq,.bool p.r.on,.bool p.r.ending] ++ p.r.knows.map (fun b=>Value.bool b) ++ [p.q]
theorem info215:(Tryz.prog.info? 215).map (fun i=>(i.zero,i.size,i.bytes))=some (some (.agg (arowC ⟨ar0,.slice none 0 0,rfl,by decide⟩).toArray),71,128):=by kernel_rfl
def arowE:El ARowR where
 f:=arowC
 d:=⟨ar0,.slice none 0 0,rfl,by decide⟩
 k:=71
 T:=215
 S:=170
 bys:=128
 z:=.agg (arowC ⟨ar0,.slice none 0 0,rfl,by decide⟩).toArray
 len:=fun p=>by simp[arowC,p.hk]
 one:=by
  intro p u hu
  simp only[arowC,List.mem_append,List.mem_cons,List.not_mem_nil,or_false,List.mem_map] at hu
  rcases hu with ((rfl | rfl | rfl | rfl | rfl | rfl) | ⟨b,_,rfl⟩) | rfl
  iterate 7 rfl
  exact p.h
 pos:=by decide
 hS:=Tryz.underlying170
 info:=info215
 hz:=by simp[Value.cells]
 hb:=by decide
def NetAt (rm:Int) (xs:List Let) (b:Nat) (F:Set_) (w:World):Prop :=
 ∃ v,w.heap[b]?=some (.cells #[.int .i64 rm,v] 118 (0,0))/\OwnE letE v xs w/\b∉foot v/\F b/\(∀ x∈foot v,F x)/\0≤rm/\rm≤65536/\(xs.length:Int)≤rm
def MemAt (bs:List Bun) (b:Nat) (F:Set_) (w:World):Prop :=
 ∃ v,w.heap[b]?=some (.cells #[v] 168 (0,0))/\OwnE bunE v bs w/\b∉foot v/\F b/\(∀ x∈foot v,F x)/\bs.length≤64
def TabAt (t:Table) (b:Nat) (F:Set_) (w:World):Prop :=
 ∃ ba bo ea ca eo co fa fo,w.heap[b]?=some (.cells #[.map (some ba),.map (some bo)] 179 (0,0))/\w.heap[ba]?=some (.map ea ca)/\w.heap[bo]?=some (.map eo co)/\IM ea ca fa/\IM eo co fo /\
  b≠ba/\b≠bo/\ba≠bo/\F b/\F ba/\F bo/\(∀ k,fa k=(t.act k).map actV)/\(∀ k,(fo k).getD (.int .i64 0)=.int .i64 (t.over k))
def LinAt (c:Cfg) (rows:Int->List Int) (b:Nat) (F:Set_) (w:World):Prop :=
 ∃ (K:Nat->Int) (bm:Nat) (es:Array MapEntry) (ck:Nat) (f:Int->Option Value),w.heap[b]?=some (.cells #[.int .i64 c.sets,.int .i64 c.ways,.map (some bm)] 211 (0,0))/\w.heap[bm]?=some (.map es ck)/\IM es ck f /\
  K b = -1/\K bm = -2/\(∀ k v,f k=some v->0≤k/\OwnE intE v (rows k) w/\∀ x∈foot v,K x=k)/\(∀ k,f k=none->rows k=[])/\(∀ k,(rows k).length≤16)/\(∀ x,-2≤K x->F x)/\1≤c.sets/\c.sets≤64/\1≤c.ways/\c.ways≤16
def CacAt (c:Cfg) (s:Cache) (b:Nat) (F:Set_) (w:World):Prop :=
 ∃ (Fl:Set_) (bl bt:Nat) (es:Array MapEntry) (ck:Nat) (f:Int->Option Value),w.heap[b]?=some (.cells #[.pointer (some ⟨bl,0,none⟩),.map (some bt)] 177 (0,0))/\w.heap[bt]?=some (.map es ck)/\IM es ck f /\
  (∀ k,(f k).getD (bunV b0)=bunV (s.tok k))/\LinAt c s.rows bl Fl w/\¬ Fl b/\¬ Fl bt/\b≠bt/\F b/\F bt/\(∀ x,Fl x->F x)/\bl≠b
end Go.Proofs.YtiebppkhaiofeaaGreat.K
