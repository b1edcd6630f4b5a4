/- Part of the proof of TopPolicies: what functions of the program do. -/
import Derived.Lib.SmallJoins
import Derived.OpenShut
import Derived.Carry
import Derived.Deep.Fields
import Derived.Lib.SliceRun
import Derived.Test.YtiebppkhaiofeaaGreatP01
import Derived.Test.YtiebppkhaiofeaaGreatP00
set_option maxHeartbeats 4000000
set_option maxRecDepth 100000
set_option linter.unusedVariables false
set_option linter.unusedSimpArgs false
open Go.IntKind renaming i64→I
open Go.Value renaming slice→J, int→V, bool→aA, pointer→bA
open Option renaming some→M, none→U
open Go.Obj renaming cells→O
open Go.ChangeMaps renaming setBlock→aB
open Go renaming Calls→bB, World→cA, bodyPost_ret→yA
open List renaming getD_eq_getElem?_getD→cB, getElem?_eq_getElem→dB, mem_append→sA, length_append→xA
open Go.Proofs.Tryz renaming prog→dA
open Go.Proofs.YtiebppkhaiofeaaGreatW.PrintWords renaming below_alloc→eA, blk_lt→eB, blk_frozen→jA, blk_below→kA, blk_alloc→lA, blk_set→mA, blk_new→nA
open Go.RowKit.Below renaming refl→fA, drew→iA, setCell→oA
open Nat renaming le_trans→lB, le_refl→pA
open And renaming intro→qA
namespace Go.Proofs.YtiebppkhaiofeaaGreat.K
open Go.RowKit Go.Proofs.YtiebppkhaiofeaaGreatW.PrintWords Go.Proofs.YtiebppkhaiofeaaGreat.S
theorem frz_alloc {w:cA} {b i:Nat} (h:b < w.heap.size) (o:Obj):(w.alloc o).frozen? ⟨b,i,U⟩=w.frozen? ⟨b,i,U⟩:=(eA (fA _ w) o).frozen (p:=⟨b,i,U⟩) h
attribute [local go_sem] World.cell?_alloc_some frz_alloc
def procC (c:Cfg) (p:S.Proc):Array Value:=#[V I p.left,V I p.tried,aA p.over,V I c.wait,V I c.tries,V I p.number,V I p.op.block,aA p.op.write,V I p.op.value,aA p.busy]
def ProcAt (c:Cfg) (p:S.Proc) (b:Nat) (w:cA):Prop:=w.heap[b]?=M (O (procC c p) 183 (0,0))
theorem ProcAt.keep {c:Cfg} {p:S.Proc} {b:Nat} {w w':cA} {F:List Nat} (h:ProcAt c p b w) (hk:Keeps F w w') (hb:b∉F):ProcAt c p b w':=hk.at_ h hb
def ProcP (c:Cfg) (v:Value) (p':S.Proc) (b:Nat) (w:cA) (e:Ending) (w':cA):Prop:=e=.returned v/\ProcAt c p' b w'/\Keeps [b] w w'
theorem pending_any {c:Cfg} {p:S.Proc} {b:Nat} {w:cA} (hp:ProcAt c p b w):bB dA 69 #[bA (M ⟨b,0,U⟩)] w (RV (.tuple #[opV p.op,aA p.busy]) w):=by
 obtain⟨lf,td,ov,nu,⟨ob,ow,va⟩,bz⟩:=p
 unfold ProcAt at hp
 have c0:=cw hp 0 (v:=V I lf)
 have c1:=cw hp 1 (v:=V I td)
 have c2:=cw hp 2 (v:=aA ov)
 have c3:=cw hp 3 (v:=V I c.wait)
 have c4:=cw hp 4 (v:=V I c.tries)
 have c5:=cw hp 5 (v:=V I nu)
 have c6:=cw hp 6 (v:=V I ob)
 have c7:=cw hp 7 (v:=aA ow)
 have c8:=cw hp 8 (v:=V I va)
 have c9:=cw hp 9 (v:=aA bz)
 clear hp
 go_enter Tryz.func69,Tryz.ntmps69
 go_wp2_with fail
 go_region
 all_goals
  go_wp2
  exact yA (v:=.tuple #[opV ⟨ob,ow,va⟩,aA bz]) (by simp[results,Tryz.results69,go_sem,opV]) rfl ⟨rfl,by repeat (first | exact fA _ _ | apply eA | apply iA | refine oA ?_ (by dsimp only;omega) _)⟩
theorem pinned_any {c:Cfg} {p:S.Proc} {b:Nat} {w:cA} (hp:ProcAt c p b w):bB dA 132 #[bA (M ⟨b,0,U⟩)] w (RQ (V I p.pinned) w):=by
 obtain⟨lf,td,ov,nu,⟨ob,ow,va⟩,bz⟩:=p
 unfold ProcAt at hp
 have c0:=cw hp 0 (v:=V I lf)
 have c1:=cw hp 1 (v:=V I td)
 have c2:=cw hp 2 (v:=aA ov)
 have c3:=cw hp 3 (v:=V I c.wait)
 have c4:=cw hp 4 (v:=V I c.tries)
 have c5:=cw hp 5 (v:=V I nu)
 have c6:=cw hp 6 (v:=V I ob)
 have c7:=cw hp 7 (v:=aA ow)
 have c8:=cw hp 8 (v:=V I va)
 have c9:=cw hp 9 (v:=aA bz)
 clear hp
 cases bz
 all_goals
  go_enter Tryz.func132,Tryz.ntmps132
  go_wp2
  go_ret
  exact RQ.of (by simp[S.Proc.pinned])
theorem procNew_any (c:Cfg) (w:cA):bB dA 50 #[V I c.wait,V I c.tries] w fun e w'=>e=.returned (bA (M ⟨w.heap.size,0,U⟩))/\w'=w.alloc (O (procC c S.Proc.new) 183):=by
 go_enter Tryz.func50,Tryz.ntmps50
 go_wp2
 go_ret
 exact⟨rfl,rfl⟩
theorem procCopy_any {c:Cfg} {p:S.Proc} {b:Nat} {w:cA} (hp:ProcAt c p b w):bB dA 80 #[bA (M ⟨b,0,U⟩)] w fun e w'=>∃ b',e=.returned (bA (M ⟨b',0,U⟩))/\w.heap.size≤b'/\ProcAt c p b' w'/\Below w.heap.size w w':=by
 obtain⟨lf,td,ov,nu,⟨ob,ow,va⟩,bz⟩:=p
 unfold ProcAt at hp
 have c0:=cw hp 0 (v:=V I lf)
 have c1:=cw hp 1 (v:=V I td)
 have c2:=cw hp 2 (v:=aA ov)
 have c3:=cw hp 3 (v:=V I c.wait)
 have c4:=cw hp 4 (v:=V I c.tries)
 have c5:=cw hp 5 (v:=V I nu)
 have c6:=cw hp 6 (v:=V I ob)
 have c7:=cw hp 7 (v:=aA ow)
 have c8:=cw hp 8 (v:=V I va)
 have c9:=cw hp 9 (v:=aA bz)
 clear hp
 go_enter Tryz.func80,Tryz.ntmps80
 go_wp2
 go_ret
 exact⟨_,rfl,pA _,nA w _,eA (fA _ _) _⟩
theorem finish_any {c:Cfg} {p:S.Proc} {b:Nat} {w:cA} (hp:ProcAt c p b w):bB dA 111 #[bA (M ⟨b,0,U⟩)] w (ProcP c (.tuple #[V I p.finish.2.1,aA p.finish.2.2]) p.finish.1 b w):=by
 obtain⟨lf,td,ov,nu,⟨ob,ow,va⟩,bz⟩:=p
 unfold ProcAt at hp
 have c0:=cw hp 0 (v:=V I lf)
 have c1:=cw hp 1 (v:=V I td)
 have c2:=cw hp 2 (v:=aA ov)
 have c3:=cw hp 3 (v:=V I c.wait)
 have c4:=cw hp 4 (v:=V I c.tries)
 have c5:=cw hp 5 (v:=V I nu)
 have c6:=cw hp 6 (v:=V I ob)
 have c7:=cw hp 7 (v:=aA ow)
 have c8:=cw hp 8 (v:=V I va)
 have c9:=cw hp 9 (v:=aA bz)
 have z0:=jA hp 0
 have z1:=jA hp 1
 have z2:=jA hp 2
 have z3:=jA hp 3
 have z4:=jA hp 4
 have z5:=jA hp 5
 have z6:=jA hp 6
 have z7:=jA hp 7
 have z8:=jA hp 8
 have z9:=jA hp 9
 have HP:=AS hp
 clear hp
 cases bz
 ·go_enter Tryz.func111,Tryz.ntmps111
  go_wp2
  go_ret2
  exact⟨rfl,HP.out,Keeps.refl _ _⟩
 ·go_enter Tryz.func111,Tryz.ntmps111
  go_wp2_with fail
  all_goals (try go_region)
  all_goals go_wp2
  go_ret2
  exact⟨rfl,(mA (mA (mA (mA HP.out _ _) _ _) _ _) _ _).trans (by simp[procC,S.Proc.finish,op0]),by repeat (with_reducible first | exact Keeps.refl _ _ | refine Keeps.set ?_ (.inl zB) _ _ | apply Keeps.alloc | apply Keeps.drew)⟩
theorem issue_any {c:Cfg} {p:S.Proc} {b:Nat} {w:cA} (hp:ProcAt c p b w) (op:S.Op):bB dA 83 #[bA (M ⟨b,0,U⟩),opV op] w (ProcP c (aA (p.issue c op).2) (p.issue c op).1 b w):=by
 obtain⟨pb,pw,pv⟩:=op
 simp only[opV]
 obtain⟨lf,td,ov,nu,⟨ob,ow,va⟩,bz⟩:=p
 unfold ProcAt at hp
 have c0:=cw hp 0 (v:=V I lf)
 have c1:=cw hp 1 (v:=V I td)
 have c2:=cw hp 2 (v:=aA ov)
 have c3:=cw hp 3 (v:=V I c.wait)
 have c4:=cw hp 4 (v:=V I c.tries)
 have c5:=cw hp 5 (v:=V I nu)
 have c6:=cw hp 6 (v:=V I ob)
 have c7:=cw hp 7 (v:=aA ow)
 have c8:=cw hp 8 (v:=V I va)
 have c9:=cw hp 9 (v:=aA bz)
 have z0:=jA hp 0
 have z1:=jA hp 1
 have z2:=jA hp 2
 have z3:=jA hp 3
 have z4:=jA hp 4
 have z5:=jA hp 5
 have z6:=jA hp 6
 have z7:=jA hp 7
 have z8:=jA hp 8
 have z9:=jA hp 9
 have HP:=AS hp
 have hb:=eB hp
 clear hp
 cases bz
 ·go_enter Tryz.func83,Tryz.ntmps83
  go_wp2_with fail
  all_goals (try go_region)
  all_goals (try go_wp2_with fail)
  refine(start_any _ _).mono ?_
  rintro e w1 ⟨rfl,hbl⟩
  have X1:=AS (kA (lA (mA (mA (mA (mA (mA HP.out 6 (V I pb)) 7 (aA pw)) 8 (V I pv)) 9 (aA true)) 5 (V I (wrap64 (nu+1)))) (O #[V I pb,aA pw,V I pv] 50)) hbl)
  have K1:=AS (((((((Keeps.refl [b] w).set (g:=b) (.inl zB) 6 (V I pb)).set (g:=b) (.inl zB) 7 (aA pw)).set (g:=b) (.inl zB) 8 (V I pv)).set (g:=b) (.inl zB) 9 (aA true)).set (g:=b) (.inl zB) 5 (V I (wrap64 (nu+1)))).alloc (O #[V I pb,aA pw,V I pv] 50) |>.trans (Keeps.below [] hbl) zB)
  clear hbl
  have y0:=cw X1.out 0 (v:=V I lf)
  have y1:=cw X1.out 1 (v:=V I td)
  have y2:=cw X1.out 2 (v:=aA ov)
  have q0:=jA X1.out 0
  have q1:=jA X1.out 1
  have q2:=jA X1.out 2
  go_wp2
  go_ret
  have hk:=((K1.out.set (g:=b) (.inl zB) 0 (V I (max c.wait 1))).set (g:=b) (.inl zB) 1 (V I 0)).set (g:=b) (.inl zB) 2 (aA false)
  refine⟨by simp[S.Proc.issue],?_,?_⟩
  rotate_left
  ·skip
   with_reducible exact hk
  have hf:=(mA (mA (mA X1.out 0 (V I (max c.wait 1))) 1 (V I 0)) 2 (aA false))
  simp only[ProcAt]
  refine Eq.trans hf ?_
  simp[procC,S.Proc.issue]
 ·go_enter Tryz.func83,Tryz.ntmps83
  go_wp2
  go_ret
  exact⟨rfl,lA HP.out _,by repeat (with_reducible first | exact Keeps.refl _ _ | refine Keeps.set ?_ (.inl zB) _ _ | apply Keeps.alloc | apply Keeps.drew)⟩
def dblR (k i n:Int):Int:=dblN (k - i).toNat n 1048576
theorem dblR_end {k i n:Int} (h:¬ i < k) (hn:n≤1048576):dblR k i n=n:=by
 unfold dblR;rw[show(k - i).toNat=0 by omega];simp only[dblN];omega
theorem dblR_step {k i n:Int} (h:i < k):dblR k i n=if n > 1048576 - n then 1048576 else dblR k (i+1) (n+n):=by
 unfold dblR;rw[show(k - i).toNat=(k - (i+1)).toNat+1 by omega];rfl
theorem double_any (n t:Int) (w:cA) (h0:0≤n) (h1:n≤64):bB dA 155 #[V I n,V I t,V I 1048576] w (RQ (V I (double n t 1048576)) w):=by
 have hd:=AS (show double n t 1048576=dblR (min (max t 0) 64) 0 n by unfold double dblR;rw[show max n 0=n by omega,show max (1048576:Int) 0=1048576 by omega];simp)
 have hk:(t < 0/\min (max t 0) 64=0)∨(0≤t/\t≤64/\min (max t 0) 64=t)∨(64 < t/\min (max t 0) 64=64):=vB
 have hn:¬ n < 0:=vB
 rw[hd.out]
 rcases hk with ⟨hk1,hk⟩ | ⟨hk1,hk2,hk⟩ | ⟨hk1,hk⟩
 ·rw[hk]
  clear hk hd
  go_enter Tryz.func155,Tryz.ntmps155
  go_wp2
  go_loop [0,14] (fun v0 v14=>∃ m i:Int,v0=V I m/\v14=V I i/\0≤i/\i≤64/\i≤0/\0≤m/\m≤1048576/\Aside0 (dblR 0 i m=dblR 0 0 n)) (fun _ v14=>(64 - intOf v14).toNat)
  case atStart=>exact⟨n,0,rfl,rfl,vB,vB,vB,vB,vB,⟨rfl⟩⟩
  case round =>
   obtain⟨m,i,rfl,rfl,hi0,hi1,hi2,hm0,hm1,R⟩:=hrel
   by_cases c1:i < 0
   ·have hs:=dblR_step (n:=m) c1
    rw[R.out] at hs
    by_cases c3:m > 1048576 - m
    ·rw[if_pos c3] at hs
     have HS:=AS hs
     clear hs R
     go_wp2
     go_ret
     exact RQ.of (by rw[HS.out];rfl)
    ·rw[if_neg c3] at hs
     have HS:=AS hs
     clear hs R
     go_wp2
     go_round
     case rel=>exact⟨m+m,i+1,rfl,rfl,vB,vB,vB,vB,vB,⟨HS.out.symm⟩⟩
     case measure=>simp[intOf];omega
   ·have hs:=dblR_end (n:=m) c1 hm1
    rw[R.out] at hs
    have HS:=AS hs
    clear hs R
    go_wp2
    all_goals
     go_ret
     exact RQ.of (by rw[HS.out];first | rfl | (congr 1;omega))
 ·rw[hk]
  clear hk hd
  go_enter Tryz.func155,Tryz.ntmps155
  go_wp2
  go_loop [0,14] (fun v0 v14=>∃ m i:Int,v0=V I m/\v14=V I i/\0≤i/\i≤64/\i≤t/\0≤m/\m≤1048576/\Aside0 (dblR t i m=dblR t 0 n)) (fun _ v14=>(64 - intOf v14).toNat)
  case atStart=>exact⟨n,0,rfl,rfl,vB,vB,vB,vB,vB,⟨rfl⟩⟩
  case round =>
   obtain⟨m,i,rfl,rfl,hi0,hi1,hi2,hm0,hm1,R⟩:=hrel
   by_cases c1:i < t
   ·have hs:=dblR_step (n:=m) c1
    rw[R.out] at hs
    by_cases c3:m > 1048576 - m
    ·rw[if_pos c3] at hs
     have HS:=AS hs
     clear hs R
     go_wp2
     go_ret
     exact RQ.of (by rw[HS.out];rfl)
    ·rw[if_neg c3] at hs
     have HS:=AS hs
     clear hs R
     go_wp2
     go_round
     case rel=>exact⟨m+m,i+1,rfl,rfl,vB,vB,vB,vB,vB,⟨HS.out.symm⟩⟩
     case measure=>simp[intOf];omega
   ·have hs:=dblR_end (n:=m) c1 hm1
    rw[R.out] at hs
    have HS:=AS hs
    clear hs R
    go_wp2
    all_goals
     go_ret
     exact RQ.of (by rw[HS.out];first | rfl | (congr 1;omega))
 ·rw[hk]
  clear hk hd
  go_enter Tryz.func155,Tryz.ntmps155
  go_wp2
  go_loop [0,14] (fun v0 v14=>∃ m i:Int,v0=V I m/\v14=V I i/\0≤i/\i≤64/\i≤64/\0≤m/\m≤1048576/\Aside0 (dblR 64 i m=dblR 64 0 n)) (fun _ v14=>(64 - intOf v14).toNat)
  case atStart=>exact⟨n,0,rfl,rfl,vB,vB,vB,vB,vB,⟨rfl⟩⟩
  case round =>
   obtain⟨m,i,rfl,rfl,hi0,hi1,hi2,hm0,hm1,R⟩:=hrel
   by_cases c1:i < 64
   ·have hs:=dblR_step (n:=m) c1
    rw[R.out] at hs
    by_cases c3:m > 1048576 - m
    ·rw[if_pos c3] at hs
     have HS:=AS hs
     clear hs R
     go_wp2
     go_ret
     exact RQ.of (by rw[HS.out];rfl)
    ·rw[if_neg c3] at hs
     have HS:=AS hs
     clear hs R
     go_wp2
     go_round
     case rel=>exact⟨m+m,i+1,rfl,rfl,vB,vB,vB,vB,vB,⟨HS.out.symm⟩⟩
     case measure=>simp[intOf];omega
   ·have hs:=dblR_end (n:=m) c1 hm1
    rw[R.out] at hs
    have HS:=AS hs
    clear hs R
    go_wp2
    all_goals
     go_ret
     exact RQ.of (by rw[HS.out];first | rfl | (congr 1;omega))
def tickV (c:Cfg) (l t:Int) (o:Bool):Value :=
 if o then .tuple #[.agg #[V I l,V I t,aA o],V I 0]
 else if 1 < l then .tuple #[.agg #[V I (wrap64 (l - 1)),V I t,aA false],V I 0]
 else if t < c.tries then .tuple #[.agg #[V I (max (double c.wait (wrap64 (t+1)) 1048576) 1),V I (wrap64 (t+1)),aA false],V I 1]
 else .tuple #[.agg #[V I 0,V I t,aA true],V I 2]
theorem ttick_any (c:Cfg) (l t:Int) (o:Bool) (w:cA) (h0:0≤c.wait) (h1:c.wait≤64):bB dA 138 #[.agg #[V I l,V I t,aA o],V I c.wait,V I c.tries] w (RV (tickV c l t o) w):=by
 cases o
 ·by_cases c1:1 < l
  ·rw[show tickV c l t false=.tuple #[.agg #[V I (wrap64 (l - 1)),V I t,aA false],V I 0] by simp[tickV,c1]]
   go_enter Tryz.func138,Tryz.ntmps138
   go_wp2
   exact yA (v:=.tuple #[.agg #[V I (wrap64 (l - 1)),V I t,aA false],V I 0]) (by simp[results,Tryz.results138,go_sem]) rfl ⟨rfl,by repeat (with_reducible first | exact fA _ _ | apply eA | apply iA)⟩
  ·by_cases c2:t < c.tries
   ·rw[show tickV c l t false=.tuple #[.agg #[V I (max (double c.wait (wrap64 (t+1)) 1048576) 1),V I (wrap64 (t+1)),aA false],V I 1] by simp[tickV,c1,c2]]
    have hdd:(double c.wait (wrap64 (t+1)) 1048576 < 1/\max (double c.wait (wrap64 (t+1)) 1048576) 1=1)∨(1≤double c.wait (wrap64 (t+1)) 1048576/\max (double c.wait (wrap64 (t+1)) 1048576) 1=double c.wait (wrap64 (t+1)) 1048576):=vB
    rcases hdd with ⟨hd1,hd2⟩ | ⟨hd1,hd2⟩
    ·rw[hd2]
     clear hd2
     have HD:=AS hd1
     clear hd1
     go_enter Tryz.func138,Tryz.ntmps138
     go_wp2_with fail
     refine(double_any _ _ _ h0 h1).mono ?_
     rintro e w1 ⟨rfl,rfl⟩
     have hd1:=HD.out
     go_wp2
     exact yA (v:=.tuple #[.agg #[V I 1,V I (wrap64 (t+1)),aA false],V I 1]) (by simp[results,Tryz.results138,go_sem]) rfl ⟨rfl,by repeat (with_reducible first | exact fA _ _ | apply eA | apply iA)⟩
    ·rw[hd2]
     clear hd2
     have HD:=AS hd1
     clear hd1
     go_enter Tryz.func138,Tryz.ntmps138
     go_wp2_with fail
     refine(double_any _ _ _ h0 h1).mono ?_
     rintro e w1 ⟨rfl,rfl⟩
     have hd1:¬ double c.wait (wrap64 (t+1)) 1048576 < 1:=by have:=HD.out;omega
     go_wp2
     exact yA (v:=.tuple #[.agg #[V I (double c.wait (wrap64 (t+1)) 1048576),V I (wrap64 (t+1)),aA false],V I 1]) (by simp[results,Tryz.results138,go_sem]) rfl ⟨rfl,by repeat (with_reducible first | exact fA _ _ | apply eA | apply iA)⟩
   ·rw[show tickV c l t false=.tuple #[.agg #[V I 0,V I t,aA true],V I 2] by simp[tickV,c1,c2]]
    go_enter Tryz.func138,Tryz.ntmps138
    go_wp2_with fail
    all_goals (try go_region)
    all_goals (try go_wp2)
    exact yA (v:=.tuple #[.agg #[V I 0,V I t,aA true],V I 2]) (by simp[results,Tryz.results138,go_sem]) rfl ⟨rfl,by repeat (with_reducible first | exact fA _ _ | apply eA | apply iA)⟩
 ·rw[show tickV c l t true=.tuple #[.agg #[V I l,V I t,aA true],V I 0] from rfl]
  go_enter Tryz.func138,Tryz.ntmps138
  go_wp2
  exact yA (v:=.tuple #[.agg #[V I l,V I t,aA true],V I 0]) (by simp[results,Tryz.results138,go_sem]) rfl ⟨rfl,by repeat (with_reducible first | exact fA _ _ | apply eA | apply iA)⟩
end Go.Proofs.YtiebppkhaiofeaaGreat.K
namespace Go.Proofs.YtiebppkhaiofeaaGreat.K
open Go.RowKit Go.Proofs.YtiebppkhaiofeaaGreatW.PrintWords Go.Proofs.YtiebppkhaiofeaaGreat.S Go.ChangeMaps Go.MapKept
abbrev Set_:=Nat->Prop
def KS (F:Set_) (w w':World):Prop:=w'.os=w.os/\w'.tape=w.tape/\w'.output=w.output/\w.heap.size≤w'.heap.size/\∀ i,i < w.heap.size->¬ F i->w'.heap[i]?=w.heap[i]?
def gr (F:Set_) (w:World):Set_:=fun x=>F x∨w.heap.size≤x
def nw (w:World):Set_:=fun x=>w.heap.size≤x
section
variable {F G H:Set_} {w w' a b c W:World}
theorem KS.refl (F:Set_) (w:World):KS F w w:=⟨rfl,rfl,rfl,pA _,fun _ _ _=>rfl⟩
theorem KS.size (h:KS F w w'):w.heap.size≤w'.heap.size:=h.2.2.2.1
theorem KS.at_ (h:KS F w w') {i:Nat} {o:Obj} (hi:w.heap[i]?=M o) (hF:¬ F i):w'.heap[i]?=M o:=(h.2.2.2.2 i (eB hi) hF).trans hi
theorem KS.mono (h:KS F w w') (hs:∀ x,x < w.heap.size->F x->G x):KS G w w' :=
 ⟨h.1,h.2.1,h.2.2.1,h.2.2.2.1,fun i hi hG=>h.2.2.2.2 i hi (fun hF=>hG (hs i hi hF))⟩
theorem KS.trans (h:KS F a b) (k:KS G b c) (hs:∀ x,x < a.heap.size->G x->F x):KS F a c :=
 ⟨k.1.trans h.1,k.2.1.trans h.2.1,k.2.2.1.trans h.2.2.1,lB h.size k.size,fun i hi hF=>(k.2.2.2.2 i (Nat.lt_of_lt_of_le hi h.size) (fun hG=>hF (hs i hi hG))).trans (h.2.2.2.2 i hi hF)⟩
theorem KS.below (F:Set_) (h:Below w.heap.size w w'):KS F w w':=⟨h.os,h.tape,h.output,h.size,fun i hi _=>h.block i hi⟩
theorem KS.andBelow (h:KS F a b) (k:Below b.heap.size b c):KS F a c:=h.trans (KS.below F k) (fun _ _ h=>h)
theorem KS.toBelow {B:Nat} (h:KS F w w') (hF:∀ x,F x->B≤x) (hs:B≤w.heap.size):Below B w w' :=
 ⟨h.1,h.2.1,h.2.2.1,h.2.2.2.1,fun i hi=>h.2.2.2.2 i vB (fun hx=>by have:=hF i hx;omega)⟩
theorem KS.keeps {L:List Nat} (h:Keeps L w w'):KS (fun x=>x∈L) w w':=h
theorem KS.ofKeeps {L:List Nat} (h:Keeps L w w') (hs:∀ x∈L,F x):KS F w w':=KS.mono (F:=fun x=>x∈L) h (fun x _ hx=>hs x hx)
theorem KS.set (h:KS F w W) {g:Nat} (hg:F g∨w.heap.size≤g) (i:Nat) (u:Value):KS F w (W.setCell ⟨g,i,U⟩ u) :=
 ⟨h.1,h.2.1,h.2.2.1,by simpa using h.2.2.2.1,fun j hj hF=>(Below.heap_setCell W ⟨g,i,U⟩ u j (show j≠g by rintro rfl;rcases hg with h1 | h1;exact hF h1;omega)).trans (h.2.2.2.2 j hj hF)⟩
theorem KS.block (h:KS F w W) {g:Nat} (hg:F g∨w.heap.size≤g) (o:Obj):KS F w (aB W g o) :=
 ⟨h.1,h.2.1,h.2.2.1,by simpa [aB] using h.2.2.2.1,fun j hj hF=>by
  have hne:j≠g:=by rintro rfl;rcases hg with h1 | h1;exact hF h1;omega
  show(W.heap.setIfInBounds g o)[j]?=_
  rw[Array.getElem?_setIfInBounds_ne (Ne.symm hne)]
  exact h.2.2.2.2 j hj hF⟩
theorem KS.alloc (h:KS F w W) (o:Obj):KS F w (W.alloc o):=h.andBelow (eA (fA _ _) o)
theorem KS.drew (h:KS F w W):KS F w W.drew:=h
theorem KS.drewN (h:KS F w W) (n:Nat):KS F w (W.drewN n):=h
end
section
variable {α:Type} {E:El α} {xs:List α} {v:Value} {w w':World} {G:Set_}
theorem OwnE.ks (h:OwnE E v xs w) (hk:KS G w w') (hF:∀ b∈foot v,¬ G b):OwnE E v xs w':=h.at_ fun b hb=>hk.2.2.2.2 b (h.lt b hb) (hF b hb)
theorem RowE.ks {A:Option Addr} (h:RowE E w A xs) (hk:KS G w w') (hF:∀ ad,A=M ad->¬ G ad.block):RowE E w' A xs:=by
 intro i hi
 obtain⟨ad,e,hc⟩:=h i hi
 refine⟨ad,e,fun j hj=>?_⟩
 have h1:=hc j hj
 have h2:(E.f (xs.getD i E.d))[j]?=M ((E.f (xs.getD i E.d))[j]'(by rw[E.len];exact hj)):=dB _
 rw[h2] at h1 ⊢
 have hlt:=World.block_lt_of_cell? w _ h1
 have hb:(ad.add (i * E.k+j)).block=ad.block:=by unfold Addr.add;split <;> rfl
 refine Eq.trans ?_ h1
 have:=hk.2.2.2.2 ad.block (by rw[<- hb];exact hlt) (hF ad e)
 simp only[World.cell?,hb,this]
end
theorem info45:(Tryz.prog.info? 45).map (fun i=>(i.zero,i.size,i.bytes))=M (M (.agg #[V I 0,aA false,aA false,V I 0]),4,24):=by kernel_rfl
def bunE:El Bun where
 f:=bunC
 d:=b0
 k:=4
 T:=45
 S:=38
 bys:=24
 z:=.agg #[V I 0,aA false,aA false,V I 0]
 len:=fun _=>rfl
 one:=by
  intro l u hu
  simp only[bunC,List.mem_cons,List.not_mem_nil,or_false] at hu
  rcases hu with rfl | rfl | rfl | rfl <;> rfl
 pos:=by decide
 hS:=Tryz.underlying38
 info:=info45
 hz:=rfl
 hb:=by decide
theorem info3:(Tryz.prog.info? 3).map (fun i=>(i.zero,i.size,i.bytes))=M (M (V I 0),1,8):=by kernel_rfl
def intE:El Int where
 f:=fun n=>[V I n]
 d:=0
 k:=1
 T:=3
 S:=57
 bys:=8
 z:=V I 0
 len:=fun _=>rfl
 one:=by
  intro l u hu
  simp only[List.mem_cons,List.not_mem_nil,or_false] at hu
  rcases hu with rfl;rfl
 pos:=by decide
 hS:=Tryz.underlying57
 info:=info3
 hz:=rfl
 hb:=by decide
def doneC (d:S.Done):List Value:=[V I d.node,V I d.number,V I d.op.block,aA d.op.write,V I d.op.value,V I d.value,V I d.step]
def done0:S.Done:=⟨0,0,op0,0,0⟩
theorem info59:(Tryz.prog.info? 59).map (fun i=>(i.zero,i.size,i.bytes))=M (M (.agg #[V I 0,V I 0,V I 0,aA false,V I 0,V I 0,V I 0]),7,56):=by kernel_rfl
def doneE:El S.Done where
 f:=doneC
 d:=done0
 k:=7
 T:=59
 S:=34
 bys:=56
 z:=.agg #[V I 0,V I 0,V I 0,aA false,V I 0,V I 0,V I 0]
 len:=fun _=>rfl
 one:=by
  intro l u hu
  simp only[doneC,List.mem_cons,List.not_mem_nil,or_false] at hu
  rcases hu with rfl | rfl | rfl | rfl | rfl | rfl | rfl <;> rfl
 pos:=by decide
 hS:=Tryz.underlying34
 info:=info59
 hz:=rfl
 hb:=by decide
def lineC (l:S.Line):List Value:=[V I l.block,V I l.bun.count,aA l.bun.owner,aA l.bun.has,V I l.bun.data]
theorem info61:(Tryz.prog.info? 61).map (fun i=>(i.zero,i.size,i.bytes))=M (M (.agg #[V I 0,V I 0,aA false,aA false,V I 0]),5,32):=by kernel_rfl
def lineE:El S.Line where
 f:=lineC
 d:=⟨0,b0⟩
 k:=5
 T:=61
 S:=48
 bys:=32
 z:=.agg #[V I 0,V I 0,aA false,aA false,V I 0]
 len:=fun _=>rfl
 one:=by
  intro l u hu
  simp only[lineC,List.mem_cons,List.not_mem_nil,or_false] at hu
  rcases hu with rfl | rfl | rfl | rfl | rfl <;> rfl
 pos:=by decide
 hS:=Tryz.underlying48
 info:=info61
 hz:=rfl
 hb:=by decide
def actC (a:S.Act):List Value:=[V I a.block,V I a.node,V I a.seq]
def actV (a:S.Act):Value:=.agg #[V I a.block,V I a.node,V I a.seq]
theorem info55:(Tryz.prog.info? 55).map (fun i=>(i.zero,i.size,i.bytes))=M (M (.agg #[V I 0,V I 0,V I 0]),3,24):=by kernel_rfl
def actE:El S.Act where
 f:=actC
 d:=act0
 k:=3
 T:=55
 S:=51
 bys:=24
 z:=.agg #[V I 0,V I 0,V I 0]
 len:=fun _=>rfl
 one:=by
  intro l u hu
  simp only[actC,List.mem_cons,List.not_mem_nil,or_false] at hu
  rcases hu with rfl | rfl | rfl <;> rfl
 pos:=by decide
 hS:=Tryz.underlying51
 info:=info55
 hz:=rfl
 hb:=by decide
def entC (e:Ent):List Value:=[V I e.kind,V I e.a,V I e.b,V I e.c,V I e.d]
theorem info33:(Tryz.prog.info? 33).map (fun i=>(i.zero,i.size,i.bytes))=M (M (.agg #[V I 0,V I 0,V I 0,V I 0,V I 0]),5,40):=by kernel_rfl
def entE:El Ent where
 f:=entC
 d:=⟨0,0,0,0,0⟩
 k:=5
 T:=33
 S:=24
 bys:=40
 z:=.agg #[V I 0,V I 0,V I 0,V I 0,V I 0]
 len:=fun _=>rfl
 one:=by
  intro l u hu
  simp only[entC,List.mem_cons,List.not_mem_nil,or_false] at hu
  rcases hu with rfl | rfl | rfl | rfl | rfl <;> rfl
 pos:=by decide
 hS:=Tryz.underlying24
 info:=info33
 hz:=rfl
 hb:=by decide
theorem info94:(Tryz.prog.info? 94).map (fun i=>(i.zero,i.size,i.bytes))=M (M (.pointer U),1,8):=by kernel_rfl
def ptrE:El (Option Nat) where
 f:=fun n=>[bA (n.map fun b=>⟨b,0,U⟩)]
 d:=U
 k:=1
 T:=94
 S:=88
 bys:=8
 z:=.pointer U
 len:=fun _=>rfl
 one:=by
  intro l u hu
  simp only[List.mem_cons,List.not_mem_nil,or_false] at hu
  rcases hu with rfl;rfl
 pos:=by decide
 hS:=Tryz.underlying88
 info:=info94
 hz:=rfl
 hb:=by decide
structure PlaceR where
 lines:Value
 busy:Bool
 op:S.Op
 acts:Value
 h1:lines.oneCell'=true
 h2:acts.oneCell'=true
def placeC (p:PlaceR):List Value:=[p.lines,aA p.busy,V I p.op.block,aA p.op.write,V I p.op.value,p.acts]
theorem info53:(Tryz.prog.info? 53).map (fun i=>(i.zero,i.size,i.bytes))=M (M (.agg #[J U 0 0,aA false,V I 0,aA false,V I 0,J U 0 0]),6,80):=by kernel_rfl
def placeE:El PlaceR where
 f:=placeC
 d:=⟨J U 0 0,false,op0,J U 0 0,rfl,rfl⟩
 k:=6
 T:=53
 S:=37
 bys:=80
 z:=.agg #[J U 0 0,aA false,V I 0,aA false,V I 0,J U 0 0]
 len:=fun _=>rfl
 one:=by
  intro p u hu
  simp only[placeC,List.mem_cons,List.not_mem_nil,or_false] at hu
  rcases hu with rfl | rfl | rfl | rfl | rfl | rfl
  ·exact p.h1
  ·rfl
  ·rfl
  ·rfl
  ·rfl
  ·exact p.h2
 pos:=by decide
 hS:=Tryz.underlying37
 info:=info53
 hz:=rfl
 hb:=by decide
structure ARowR where
 r:ARow
 q:Value
 h:q.oneCell'=true
 hk:r.knows.length=64
def arowC (p:ARowR):List Value:=[V I p.r.seq,V I p.r.active.block,V I p.r.active.node,V I p.r.active.seq,aA p.r.on,aA p.r.ending] ++ p.r.knows.map (fun b=>Value.bool b) ++ [p.q]
theorem info215:(Tryz.prog.info? 215).map (fun i=>(i.zero,i.size,i.bytes))=M (M (.agg (arowC ⟨ar0,J U 0 0,rfl,yB⟩).toArray),71,128):=by kernel_rfl
def arowE:El ARowR where
 f:=arowC
 d:=⟨ar0,J U 0 0,rfl,yB⟩
 k:=71
 T:=215
 S:=170
 bys:=128
 z:=.agg (arowC ⟨ar0,J U 0 0,rfl,yB⟩).toArray
 len:=fun p=>by simp[arowC,p.hk]
 one:=by
  intro p u hu
  simp only[arowC,sA,List.mem_cons,List.not_mem_nil,or_false,List.mem_map] at hu
  rcases hu with ((rfl | rfl | rfl | rfl | rfl | rfl) | ⟨b,_,rfl⟩) | rfl
  iterate 7 rfl
  exact p.h
 pos:=by decide
 hS:=Tryz.underlying170
 info:=info215
 hz:=by simp[Value.cells]
 hb:=by decide
def NetAt (rm:Int) (xs:List Let) (b:Nat) (F:Set_) (w:World):Prop :=
 ∃ v,w.heap[b]?=M (O #[V I rm,v] 118 (0,0))/\OwnE letE v xs w/\b∉foot v/\F b/\(∀ x∈foot v,F x)/\0≤rm/\rm≤65536/\(xs.length:Int)≤rm
def MemAt (bs:List Bun) (b:Nat) (F:Set_) (w:World):Prop :=
 ∃ v,w.heap[b]?=M (O #[v] 168 (0,0))/\OwnE bunE v bs w/\b∉foot v/\F b/\(∀ x∈foot v,F x)/\bs.length≤64
def TabAt (t:Table) (b:Nat) (F:Set_) (w:World):Prop :=
 ∃ ba bo ea ca eo co fa fo,w.heap[b]?=M (O #[.map (M ba),.map (M bo)] 179 (0,0))/\w.heap[ba]?=M (.map ea ca)/\w.heap[bo]?=M (.map eo co)/\IM ea ca fa/\IM eo co fo /\
  b≠ba/\b≠bo/\ba≠bo/\F b/\F ba/\F bo/\(∀ k,fa k=(t.act k).map actV)/\(∀ k,(fo k).getD (V I 0)=V I (t.over k))
def LinAt (c:Cfg) (rows:Int->List Int) (b:Nat) (F:Set_) (w:World):Prop :=
 ∃ (K:Nat->Int) (bm:Nat) (es:Array MapEntry) (ck:Nat) (f:Int->Option Value),w.heap[b]?=M (O #[V I c.sets,V I c.ways,.map (M bm)] 211 (0,0))/\w.heap[bm]?=M (.map es ck)/\IM es ck f /\
  K b = -1/\K bm = -2/\(∀ k v,f k=M v->0≤k/\OwnE intE v (rows k) w/\∀ x∈foot v,K x=k)/\(∀ k,f k=U->rows k=[])/\(∀ k,(rows k).length≤16)/\(∀ x,-2≤K x->F x)/\1≤c.sets/\c.sets≤64/\1≤c.ways/\c.ways≤16
def CacAt (c:Cfg) (s:Cache) (b:Nat) (F:Set_) (w:World):Prop :=
 ∃ (Fl:Set_) (bl bt:Nat) (es:Array MapEntry) (ck:Nat) (f:Int->Option Value),w.heap[b]?=M (O #[bA (M ⟨bl,0,U⟩),.map (M bt)] 177 (0,0))/\w.heap[bt]?=M (.map es ck)/\IM es ck f /\
  (∀ k,(f k).getD (bunV b0)=bunV (s.tok k))/\LinAt c s.rows bl Fl w/\¬ Fl b/\¬ Fl bt/\b≠bt/\F b/\F bt/\(∀ x,Fl x->F x)/\bl≠b
end Go.Proofs.YtiebppkhaiofeaaGreat.K
namespace Go.Proofs.YtiebppkhaiofeaaGreat.Opens
open Go.Joins Go.ChangeShapes Go.WideShapes Go.RowKit Go.Deep Go.Proofs.YtiebppkhaiofeaaGreat.K Go.Proofs.YtiebppkhaiofeaaGreat.S
section
variable {H:Type} {enc:TypeId×Value->H} {P:Program} {w:cA} {base:Nat} {spare:Nat->Bool} {held:Bool}
theorem open_agg9' {r:Reach} {b0:Nat} {t:TypeId} {f0 f1 f2 f3 f4 f5 f6 f7 f8:Field} {v:Value} {d:DataW H} {p:List MemPlace} (hs:P.underlying t=M (.struct #[f0,f1,f2,f3,f4,f5,f6,f7,f8])) (hone:oneCellFields P #[f0,f1,f2,f3,f4,f5,f6,f7,f8]=true) (hC:P.cellsOf t=9)
  (hv:Value.okWide P w r b0 t v) (h:DataW.Trod enc P w base spare held t v d p) :
  ∃ (v0 v1 v2 v3 v4 v5 v6 v7 v8:Value) (y0 y1 y2 y3 y4 y5 y6 y7 y8:DataW H×List MemPlace) (n:Nat),v=.agg #[v0,v1,v2,v3,v4,v5,v6,v7,v8]/\d=.agg [y0.1,y1.1,y2.1,y3.1,y4.1,y5.1,y6.1,y7.1,y8.1]/\p=y0.2 ++ (y1.2 ++ (y2.2 ++ (y3.2 ++ (y4.2 ++ (y5.2 ++ (y6.2 ++ (y7.2 ++ y8.2))))))) /\
   DataW.trod enc P w base spare held n f0.type [v0]=M y0/\DataW.trod enc P w base spare held n f1.type [v1]=M y1/\DataW.trod enc P w base spare held n f2.type [v2]=M y2/\DataW.trod enc P w base spare held n f3.type [v3]=M y3/\DataW.trod enc P w base spare held n f4.type [v4]=M y4/\DataW.trod enc P w base spare held n f5.type [v5]=M y5/\DataW.trod enc P w base spare held n f6.type [v6]=M y6/\DataW.trod enc P w base spare held n f7.type [v7]=M y7/\DataW.trod enc P w base spare held n f8.type [v8]=M y8:=by
 obtain⟨cs,rfl,hsz⟩:=okWide_struct hs hv
 obtain⟨l⟩:=cs
 match l,hsz.trans hC with
 | [c0,c1,c2,c3,c4,c5,c6,c7,c8],_ =>
  obtain⟨fuel,hf⟩:=h
  obtain⟨xs,n,_,hx,_,hlen,hg⟩:=DataW.trod_struct hs hf
  obtain⟨o0,k0⟩:=hone_of hone 0 f0 rfl
  obtain⟨o1,k1⟩:=hone_of hone 1 f1 rfl
  obtain⟨o2,k2⟩:=hone_of hone 2 f2 rfl
  obtain⟨o3,k3⟩:=hone_of hone 3 f3 rfl
  obtain⟨o4,k4⟩:=hone_of hone 4 f4 rfl
  obtain⟨o5,k5⟩:=hone_of hone 5 f5 rfl
  obtain⟨o6,k6⟩:=hone_of hone 6 f6 rfl
  obtain⟨o7,k7⟩:=hone_of hone 7 f7 rfl
  obtain⟨o8,k8⟩:=hone_of hone 8 f8 rfl
  match xs,hlen with
  | [y0,y1,y2,y3,y4,y5,y6,y7,y8],_ =>
   simp only[Prod.mk.injEq] at hx
   exact⟨c0,c1,c2,c3,c4,c5,c6,c7,c8,y0,y1,y2,y3,y4,y5,y6,y7,y8,n,rfl,by simpa using hx.1,by simpa using hx.2,by simpa [Value.cells,o0,k0] using hg 0 f0 rfl,by simpa [Value.cells,o1,k1] using hg 1 f1 rfl,by simpa [Value.cells,o2,k2] using hg 2 f2 rfl,by simpa [Value.cells,o3,k3] using hg 3 f3 rfl,by simpa [Value.cells,o4,k4] using hg 4 f4 rfl,by simpa [Value.cells,o5,k5] using hg 5 f5 rfl,by simpa [Value.cells,o6,k6] using hg 6 f6 rfl,by simpa [Value.cells,o7,k7] using hg 7 f7 rfl,by simpa [Value.cells,o8,k8] using hg 8 f8 rfl⟩
theorem open_cfg {r:Reach} {b0:Nat} {v:Value} {d:DataW H} {p:List MemPlace} (hv:Value.okWide dA w r b0 23 v) (h:DataW.Trod enc dA w base spare held 23 v d p) :
  ∃ (x0:Int) (x1:Int) (x2:Int) (x3:Int) (x4:Int) (x5:Int) (x6:Int) (x7:Int) (x8:Int),v=.agg #[V I x0,V I x1,V I x2,V I x3,V I x4,V I x5,V I x6,V I x7,V I x8]/\p=[]/\(Lit.int .i64 x0).wf=true/\(Lit.int .i64 x1).wf=true/\(Lit.int .i64 x2).wf=true/\(Lit.int .i64 x3).wf=true/\(Lit.int .i64 x4).wf=true/\(Lit.int .i64 x5).wf=true/\(Lit.int .i64 x6).wf=true/\(Lit.int .i64 x7).wf=true/\(Lit.int .i64 x8).wf=true:=by
 obtain⟨v0,v1,v2,v3,v4,v5,v6,v7,v8,y0,y1,y2,y3,y4,y5,y6,y7,y8,m,rfl,-,hp,h0,h1,h2,h3,h4,h5,h6,h7,h8⟩:=open_agg9' Tryz.underlying23 xB xB hv h
 obtain⟨x0,e0,rfl,w0⟩:=DataW.trod_int (k:=.i64) xB h0
 obtain⟨x1,e1,rfl,w1⟩:=DataW.trod_int (k:=.i64) xB h1
 obtain⟨x2,e2,rfl,w2⟩:=DataW.trod_int (k:=.i64) xB h2
 obtain⟨x3,e3,rfl,w3⟩:=DataW.trod_int (k:=.i64) xB h3
 obtain⟨x4,e4,rfl,w4⟩:=DataW.trod_int (k:=.i64) xB h4
 obtain⟨x5,e5,rfl,w5⟩:=DataW.trod_int (k:=.i64) xB h5
 obtain⟨x6,e6,rfl,w6⟩:=DataW.trod_int (k:=.i64) xB h6
 obtain⟨x7,e7,rfl,w7⟩:=DataW.trod_int (k:=.i64) xB h7
 obtain⟨x8,e8,rfl,w8⟩:=DataW.trod_int (k:=.i64) xB h8
 simp only[List.cons.injEq,and_true] at e0 e1 e2 e3 e4 e5 e6 e7 e8
 subst e0 e1 e2 e3 e4 e5 e6 e7 e8
 exact⟨x0,x1,x2,x3,x4,x5,x6,x7,x8,rfl,by simpa using hp,w0,w1,w2,w3,w4,w5,w6,w7,w8⟩
theorem open_rowE {α:Type} (E:El α) {t:TypeId} {cs:List Value} {fuel:Nat} {x:DataW H×List MemPlace} (ht:P.underlying t=M (.slice E.T)) (hsz:P.cellsOf E.T=E.k)
  (leaf:∀ n cs y,DataW.trod enc P w base spare held n E.T cs=M y->∃ p:α,cs=E.f p) (h:DataW.trod enc P w base spare held fuel t cs=M x) :
  ∃ a cap,∃ xs:List α,cs=[J a xs.length cap]/\xs.length≤cap/\cap≤maxLen/\RowE E w a xs:=by
 rcases open_slice ht h with ⟨hcs,_⟩ | ⟨ad,len',cap',m,n,D,Pl,hcs,_,hl,hm,hmm,_,hx⟩
 ·exact⟨U,0,[],by simpa using hcs,pA _,Nat.zero_le _,fun i hi=>by simp at hi⟩
 ·have hlm:len'≤m:=by rw[hmm];split <;> omega
  have key:∀ i,i < len'->∃ p:α,∀ j,j < E.k->w.cell? (ad.add (i * E.k+j))=(E.f p)[j]?:=by
   intro i hi
   obtain⟨cs',hc,htr⟩:=hx i vB
   obtain⟨p,rfl⟩:=leaf _ _ _ htr
   rw[hsz] at hc
   obtain⟨_,_,hat⟩:=World.cells?_some hc
   exact⟨p,fun j hj=>by rw[<- Go.Deep.add_add];exact hat j hj⟩
  have e0:∀ i (hi:i < len'),((List.range len').map fun i=>if h:i < len' then Classical.choose (key i h) else E.d).getD i E.d=Classical.choose (key i hi):=fun i hi=>by
   simp[cB,hi]
  refine⟨M ad,cap',(List.range len').map fun i=>if h:i < len' then Classical.choose (key i h) else E.d,by simpa using hcs,by simpa using hl,hm,fun i hi=>?_⟩
  simp at hi
  exact⟨ad,rfl,fun j hj=>by rw[e0 i hi];exact Classical.choose_spec (key i hi) j hj⟩
theorem leaf33 (n:Nat) (cs:List Value) (y:DataW H×List MemPlace) (h:DataW.trod enc dA w base spare held n 33 cs=M y):∃ p:Ent,cs=entE.f p:=by
 obtain⟨xs,m,_,_,hl,hlen,hg⟩:=DataW.trod_struct Tryz.underlying33 h
 have hC:Tryz.prog.cellsOf 33=5:=by kernel_rfl
 have k3:Tryz.prog.cellsOf 3=1:=by kernel_rfl
 have k2:Tryz.prog.cellsOf 2=1:=by kernel_rfl
 rw[hC] at hl
 match cs,hl with
 | [a0,a1,a2,a3,a4],_ =>
  match xs,hlen with
  | [y0,y1,y2,y3,y4],_ =>
   have h0:=hg 0 _ rfl
   have h1:=hg 1 _ rfl
   have h2:=hg 2 _ rfl
   have h3:=hg 3 _ rfl
   have h4:=hg 4 _ rfl
   simp[k3,k2] at h0 h1 h2 h3 h4
   obtain⟨x0,e0,_,_⟩:=DataW.trod_int (k:=.i64) xB h0
   obtain⟨x1,e1,_,_⟩:=DataW.trod_int (k:=.i64) xB h1
   obtain⟨x2,e2,_,_⟩:=DataW.trod_int (k:=.i64) xB h2
   obtain⟨x3,e3,_,_⟩:=DataW.trod_int (k:=.i64) xB h3
   obtain⟨x4,e4,_,_⟩:=DataW.trod_int (k:=.i64) xB h4
   simp at e0 e1 e2 e3 e4
   subst e0 e1 e2 e3 e4
   exact⟨⟨x0,x1,x2,x3,x4⟩,rfl⟩
end
theorem laid:laidOutB dA=true:=by kernel_rfl
theorem kept {H:Type} {enc:TypeId×Value->H} {t:TypeId} (hr:Tryz.prog.readableRec t=true) (hrow:t < Tryz.prog.types.size) {W W':cA} {v:Value} {d:DataW H} {ps:List MemPlace}
  (h:DataW.Trod enc dA W 0 (fun _=>true) true t v d ps) (hb:Below W.heap.size W W') (hp:ps=[]) :
  DataW.Trod enc dA W' 0 (fun b=>decide (b < W.heap.size)) true t v d ps :=
 Below.trod laid hr hrow h hb (by subst hp;simp)
end Go.Proofs.YtiebppkhaiofeaaGreat.Opens
namespace Go.Proofs.YtiebppkhaiofeaaGreat.K
open Go.RowKit Go.Proofs.YtiebppkhaiofeaaGreatW.PrintWords Go.Proofs.YtiebppkhaiofeaaGreat.S
def NewRow {α:Type} (E:El α) (xs:List α) (w:cA) (e:Ending) (w':cA):Prop:=∃ v,e=.returned v/\OwnE E v xs w'/\(∀ x∈foot v,w.heap.size≤x)/\Below w.heap.size w w'
section
variable {α:Type} {E:El α} {ops:Array Oper} {rest:List Oper} {o:Oper} {a:Go.Act} {w:cA}
theorem cells_cyc (c:Array Value):List.map (fun i=>c[i % c.size]!) (List.range c.size)=c.toList:=by
 refine List.ext_getElem zB fun i h1 h2=>?_
 have h3:i < c.size:=by simpa using h2
 simp[Nat.mod_eq_of_lt h3,getElem!_pos c i h3]
theorem list_clearE {Q:Exit->Go.Act->cA->Prop} (hgd:o.guard=U) (x:Operand)
  (ho:o.op=.call { callee:=.builtin .clear,args:=#[x],argTypes:=#[E.S]}) {g q m c:Nat} {cur:Array Value}
  (hx:a.eval x=J (M ⟨g,q,U⟩) m c) (hm:m=1) (hg:w.heap[g]?=M (O cur E.T (0,0))) (hfit:q+E.k≤cur.size)
  (h:∀ cur':Array Value,cur'.size=cur.size->cur'.toList.take q=cur.toList.take q->wpList dA ops Q rest (a.put o.dst (.tuple #[])) (w.setRow g cur')):wpList dA ops Q (o :: rest) a w:=by
 refine wpList_plain hgd fun K hK=>?_
 subst hm
 obtain⟨i0,hi,hz0,hz1,hz2⟩:=info_parts E.info
 have hst:=run_storeCells_at dA g q E.T (E.f E.d) 0 cur w hg (by rw[E.len];omega) (E.one _)
 have hzv:(zeroValue E.T).run dA w=.ok E.z w:=by simp[zeroValue,typeInfo,hi,hz0]
 have hzc:(Builtin.zeroCells E.z.cells 1).toList=E.f E.d:=by have h:=cells_cyc E.z.cells;rw[E.hz] at h;simp only[Builtin.zeroCells,Nat.one_mul];simpa using h
 simp only[Nat.add_zero] at hst
 have hr:(Builtin.clear_ #[E.S] o.type #[J (M ⟨g,q,U⟩) 1 c]).run dA w=.ok (.tuple #[]) (w.setRow g (cur.toList.take q ++ E.f E.d ++ cur.toList.drop (q+(E.f E.d).length)).toArray):=by
  simp[Builtin.clear_,run_underlying E.hS,hzv,hzc,hst]
 unfold Oper.wp execOp
 simp only[ho,resolve,invoke,builtin,Sem.run_bind,Sem.run_pure,Result.andThen_ok,List.map_toArray,List.map_cons,List.map_nil,hx,hr]
 refine hK _ _ (h _ ?_ ?_)
 ·simp only[List.size_toArray,xA,List.length_take,List.length_drop,Array.length_toList,E.len];omega
 ·simp only[List.append_assoc]
  rw[List.take_left' (by simp only[List.length_take,Array.length_toList];omega)]
theorem step_delE {K:Go.Act->cA->Prop} {Q:Exit->Go.Act->cA->Prop} {D:Prop} (hgd:o.guard=U) (s x:Operand)
  (ho:o.op=.call { callee:=.builtin .append,args:=#[s,x],argTypes:=#[E.S,E.S]}) {g i m cap c:Nat} {cur:Array Value} {ad:Addr} {ys:List α}
  (hs:a.eval s=J (M ⟨g,0,U⟩) i cap) (hx:a.eval x=J (M ad) m c) (hm:m=ys.length) (hR:∀ j u,(flat E ys)[j]?=M u->w.cell? (ad.add j)=M u)
  (hg:w.heap[g]?=M (O cur E.T (0,0))) (hroom:i+ys.length≤cap) (hcs:cur.size=cap * E.k)
  (h:∀ cur':Array Value,cur'.size=cap * E.k->cur'.toList.take ((i+ys.length) * E.k)=cur.toList.take (i * E.k) ++ flat E ys->K (a.put o.dst (J (M ⟨g,0,U⟩) (i+ys.length) cap)) (w.setRow g cur')) :
  if Region.wanted o (yielded ops a.tmps)=true then Oper.wp dA o a w K Q else D:=by
 have hw:Region.wanted o (yielded ops a.tmps)=true:=by simp[Region.wanted,hgd]
 rw[if_pos hw]
 subst hm
 obtain⟨i0,hi,hz0,hz1,hz2⟩:=info_parts E.info
 have hle:(i+ys.length) * E.k≤cap * E.k:=Nat.mul_le_mul_right _ hroom
 rw[Nat.add_mul] at hle
 have hr:=run_append_room (P:=dA) w E.S o.type E.T i0 E.hS hi g i cap cur hg ad ys.length c (flat E ys) (by rw[hz1];exact flat_len E ys) hR (flat_one E ys) hroom (by rw[hz1,flat_len,hcs];omega)
 rw[hz1] at hr
 unfold Oper.wp execOp
 simp only[ho,resolve,invoke,builtin,Sem.run_bind,Sem.run_pure,Result.andThen_ok,List.map_toArray,List.map_cons,List.map_nil,hs,hx,hr]
 refine h _ ?_ ?_
 ·simp only[List.size_toArray,xA,List.length_take,List.length_drop,Array.length_toList,flat_len];omega
 ·show List.take _ (_ ++ _ ++ _)=_
  rw[List.take_left' (by simp only[xA,List.length_take,Array.length_toList,flat_len];rw[Nat.add_mul];omega)]
end
theorem nilE {α:Type} (E:El α) (w:cA) (a:Option Addr) (n c:Nat):(binOp .eql E.S (J a n c) (J U 0 0)).run dA w=.ok (aA a.isNone) w:=Lib.run_eql_slice_nil w E.S E.T a n c 0 0 E.hS
theorem nil39 (w:cA) (a:Option Addr) (n c:Nat):(binOp .eql 39 (J a n c) (J U 0 0)).run dA w=.ok (aA a.isNone) w:=nilE letE w a n c
theorem nil170 (w:cA) (a:Option Addr) (n c:Nat):(binOp .eql 170 (J a n c) (J U 0 0)).run dA w=.ok (aA a.isNone) w:=nilE arowE w a n c
theorem nil57 (w:cA) (a:Option Addr) (n c:Nat):(binOp .eql 57 (J a n c) (J U 0 0)).run dA w=.ok (aA a.isNone) w:=nilE intE w a n c
attribute [local go_sem] nil39 nil170 nil57
theorem cloneL_any {A:Option Addr} {xs:List Let} {c:Nat} {w:cA} (hR:RowE letE w A xs) (hn:A=U->xs=[]) (hlen:xs.length * letE.bys≤140737488355328) :
  bB dA 66 #[J A xs.length c] w (NewRow letE xs w):=by
 have R:=AS hR
 clear hR
 cases A with
 | none =>
  obtain rfl:=hn rfl
  go_enter Tryz.func66,Tryz.ntmps66
  go_wp2
  go_ret
  exact⟨_,rfl,OwnE.nil _,by simp[foot_nil],fA _ _⟩
 | some ad =>
  clear hn
  have O_:=AS (OwnE.made (E:=letE) w)
  have R2:=AS (RowE.below R.out (eA (fA _ _) (O #[] letE.T)))
  go_enter Tryz.func66,Tryz.ntmps66
  go_wp2_with (at_builtin;refine list_appE (E:=letE) (xs:=[]) (ys:=xs) xB _ _ rfl rfl rfl rfl (by exact O_.out) (by exact R2.out) (by simpa using hlen) ?_;intro v1 w1 hO hK hf;have O1:=AS hO;have K1:Aside0 (Keeps [w.heap.size] (w.alloc (O #[] letE.T)) w1):=⟨hK⟩;have F1:Aside0 (foot v1=[w.heap.size]∨foot v1=[w.heap.size+1]):=⟨hf.imp (fun e=>e) (fun e=>e.trans zB)⟩;clear hO hK hf)
  go_ret
  refine⟨v1,rfl,by simpa using O1.out,?_,?_⟩
  ·intro x hx
   rcases F1.out with e | e
   ·rw[e] at hx;simp at hx;omega
   ·rw[e] at hx;simp at hx;omega
  ·exact(eA (fA _ _) _).trans (K1.out.toBelow (by intro x hx;simp at hx;omega) zB)
theorem cloneI_any {A:Option Addr} {xs:List Int} {c:Nat} {w:cA} (hR:RowE intE w A xs) (hn:A=U->xs=[]) (hlen:xs.length * intE.bys≤140737488355328) :
  bB dA 104 #[J A xs.length c] w (NewRow intE xs w):=by
 have R:=AS hR
 clear hR
 cases A with
 | none =>
  obtain rfl:=hn rfl
  go_enter Tryz.func104,Tryz.ntmps104
  go_wp2
  go_ret
  exact⟨_,rfl,OwnE.nil _,by simp[foot_nil],fA _ _⟩
 | some ad =>
  clear hn
  have O_:=AS (OwnE.made (E:=intE) w)
  have R2:=AS (RowE.below R.out (eA (fA _ _) (O #[] intE.T)))
  go_enter Tryz.func104,Tryz.ntmps104
  go_wp2_with (at_builtin;refine list_appE (E:=intE) (xs:=[]) (ys:=xs) xB _ _ rfl rfl rfl rfl (by exact O_.out) (by exact R2.out) (by simpa using hlen) ?_;intro v1 w1 hO hK hf;have O1:=AS hO;have K1:Aside0 (Keeps [w.heap.size] (w.alloc (O #[] intE.T)) w1):=⟨hK⟩;have F1:Aside0 (foot v1=[w.heap.size]∨foot v1=[w.heap.size+1]):=⟨hf.imp (fun e=>e) (fun e=>e.trans zB)⟩;clear hO hK hf)
  go_ret
  refine⟨v1,rfl,by simpa using O1.out,?_,?_⟩
  ·intro x hx
   rcases F1.out with e | e
   ·rw[e] at hx;simp at hx;omega
   ·rw[e] at hx;simp at hx;omega
  ·exact(eA (fA _ _) _).trans (K1.out.toBelow (by intro x hx;simp at hx;omega) zB)
theorem cloneR_any {A:Option Addr} {xs:List ARowR} {c:Nat} {w:cA} (hR:RowE arowE w A xs) (hn:A=U->xs=[]) (hlen:xs.length * arowE.bys≤140737488355328) :
  bB dA 103 #[J A xs.length c] w (NewRow arowE xs w):=by
 have R:=AS hR
 clear hR
 cases A with
 | none =>
  obtain rfl:=hn rfl
  go_enter Tryz.func103,Tryz.ntmps103
  go_wp2
  go_ret
  exact⟨_,rfl,OwnE.nil _,by simp[foot_nil],fA _ _⟩
 | some ad =>
  clear hn
  have O_:=AS (OwnE.made (E:=arowE) w)
  have R2:=AS (RowE.below R.out (eA (fA _ _) (O #[] arowE.T)))
  go_enter Tryz.func103,Tryz.ntmps103
  go_wp2_with (at_builtin;refine list_appE (E:=arowE) (xs:=[]) (ys:=xs) xB _ _ rfl rfl rfl rfl (by exact O_.out) (by exact R2.out) (by simpa using hlen) ?_;intro v1 w1 hO hK hf;have O1:=AS hO;have K1:Aside0 (Keeps [w.heap.size] (w.alloc (O #[] arowE.T)) w1):=⟨hK⟩;have F1:Aside0 (foot v1=[w.heap.size]∨foot v1=[w.heap.size+1]):=⟨hf.imp (fun e=>e) (fun e=>e.trans zB)⟩;clear hO hK hf)
  go_ret
  refine⟨v1,rfl,by simpa using O1.out,?_,?_⟩
  ·intro x hx
   rcases F1.out with e | e
   ·rw[e] at hx;simp at hx;omega
   ·rw[e] at hx;simp at hx;omega
  ·exact(eA (fA _ _) _).trans (K1.out.toBelow (by intro x hx;simp at hx;omega) zB)
theorem delL_any {g cap i:Nat} {xs:List Let} {w:cA} (hO:OwnE letE (J (M ⟨g,0,U⟩) xs.length cap) xs w) (hi:i < xs.length) :
  bB dA 63 #[J (M ⟨g,0,U⟩) xs.length cap,V I i,V I ((i:Int)+1)] w fun e w'=>e=.returned (J (M ⟨g,0,U⟩) (xs.length - 1) cap)/\OwnE letE (J (M ⟨g,0,U⟩) (xs.length - 1) cap) (xs.eraseIdx i) w'/\Keeps [g] w w':=by
 obtain⟨cur,hg,hnc,hcs,htk,hcm⟩:∃ cur:Array Value,w.heap[g]?=M (O cur letE.T (0,0))/\xs.length≤cap/\cur.size=cap * letE.k/\cur.toList.take (xs.length * letE.k)=flat letE xs/\cap≤9223372036854775807:=by
  rcases hO.cases with ⟨h,_⟩ | ⟨g',cap',cur,h,hg,hnc,hm,hcs,htk⟩
  ·simp at h
  ·simp at h
   obtain⟨rfl,rfl⟩:=h
   exact⟨cur,hg,hnc,hcs,htk,hm⟩
 have hrow:RowE letE w (M ⟨g,0,U⟩) xs:=by
  obtain⟨A,c,h,hr,_⟩:=OwnE.row hO
  simp at h
  rw[<- h.1] at hr
  exact hr
 have hlast:xs.length - (i+1)=(xs.drop (i+1)).length:=by simp
 have hi1:i+(xs.drop (i+1)).length=xs.length - 1:=by simp;omega
 have FIN:=AS (show ∀ cur1 cur2:Array Value,cur1.size=cap * letE.k->cur1.toList.take ((i+(xs.drop (i+1)).length) * letE.k)=cur.toList.take (i * letE.k) ++ flat letE (xs.drop (i+1))->cur2.size=cur1.size->cur2.toList.take ((xs.length - 1) * letE.k)=cur1.toList.take ((xs.length - 1) * letE.k) ->
   OwnE letE (J (M ⟨g,0,U⟩) (xs.length - 1) cap) (xs.eraseIdx i) ((w.drew.setRow g cur1).setRow g cur2)/\Keeps [g] w ((w.drew.setRow g cur1).setRow g cur2) from by
  intro cur1 cur2 h1 h2 h3 h4
  have hgd:w.drew.heap[g]?=M (O cur letE.T (0,0)):=hg
  have el:(xs.eraseIdx i).length=xs.length - 1:=by rw[List.length_eraseIdx_of_lt hi]
  refine⟨?_,⟨rfl,rfl,rfl,zB,fun k hk hne=>?_⟩⟩
  ·have:=OwnE.mk (E:=letE) (xs:=xs.eraseIdx i) (W:=(w.drew.setRow g cur1).setRow g cur2) (g:=g) (cap:=cap) (cur:=cur2) (setRow_heap _ g cur1 cur2 letE.T (0,0) (setRow_heap _ g cur cur1 letE.T (0,0) hgd)) (by rw[el];omega) hcm vB (by rw[el,h4,<- hi1,h2,List.eraseIdx_eq_take_drop_succ,flat_append,<- flat_take letE xs i vB,<- htk,List.take_take,Nat.min_eq_left (Nat.mul_le_mul_right _ vB)])
   rw[el] at this
   exact this
  ·have hk:k≠g:=fun e=>hne (by simp[e])
   exact(setRow_other _ g k _ hk).trans (setRow_other _ g k _ hk))
 have FIN0:=AS (show cap=i+1->∀ cur2:Array Value,cur2.size=cur.size->cur2.toList.take (i * letE.k)=cur.toList.take (i * letE.k) ->
   OwnE letE (J (M ⟨g,0,U⟩) i (i+1)) (xs.eraseIdx i) (w.drew.setRow g cur2)/\Keeps [g] w (w.drew.setRow g cur2) from by
  intro hc cur2 h3 h4
  have hx:xs.length=i+1:=vB
  have:=FIN.out cur cur2 hcs (by rw[List.drop_eq_nil_of_le vB];simp[flat]) h3 (by rw[hx];exact h4)
  rw[setRow_self w.drew g cur letE.T (0,0) hg,hx,hc] at this
  exact this)
 have G:=AS hg
 have R:=AS hrow
 have HL:=AS hlast
 have H1:=AS hi1
 clear hlast hi1
 have hcs':=AS hcs
 clear hO hrow hg htk hcs
 by_cases hc:cap=i+1
 ·have hx1:xs.length=i+1:=vB
  have q1:(i:Int)≤(i:Int)+1:=vB
  have q2:(0:Int)≤(i:Int):=vB
  have q3:(i:Int)≤(cap:Int):=vB
  have q4:(i:Int)+1≤(xs.length:Int):=vB
  have q5:(0:Int)≤(i:Int)+1:=vB
  have q6:(i:Int)+1≤(cap:Int):=vB
  go_enter Tryz.func63,Tryz.ntmps63
  go_wp2_with fail
  go_region_law (fail)
  all_goals
   go_wp2_with (refine list_clearE (E:=letE) rfl _ rfl rfl vB (by exact G.out) (by have h8:=hcs'.out;rw[h8,hc];show _+letE.k≤_ * letE.k;simp[letE];try omega) ?_;intro cur2 h3 h4;have K3:=AS h3;have K4:=AS h4;clear h3 h4)
   go_ret
   exact⟨by rw[hx1,hc];rfl,by have:=FIN0.out hc cur2 K3.out (by simpa [letE] using K4.out);rw[hx1,hc];exact this.1,(FIN0.out hc cur2 K3.out (by simpa [letE] using K4.out)).2⟩
 ·have hc2:i+1 < cap:=vB
  have hno:Aside0 (∀ j u,(flat letE (xs.drop (i+1)))[j]?=M u->w.drew.cell? ((⟨g,(i+1) * letE.k,U⟩:Addr).add j)=M u):=⟨by
   intro j u hu
   have hj:=(List.getElem?_eq_some_iff.1 hu).1
   rw[<- flat_drop letE xs (i+1) vB,List.getElem?_drop] at hu
   have:=RowE.news R.out _ u hu
   rw[Addr.add_lit] at this ⊢
   simpa [Nat.add_assoc] using this⟩
  have q1:(i:Int)≤(i:Int)+1:=vB
  have q2:(0:Int)≤(i:Int):=vB
  have q3:(i:Int)≤(cap:Int):=vB
  have q4:(i:Int)+1≤(xs.length:Int):=vB
  have q5:(0:Int)≤(i:Int)+1:=vB
  have q6:(i:Int)+1≤(cap:Int):=vB
  go_enter Tryz.func63,Tryz.ntmps63
  go_wp2_with fail
  go_region_law (refine step_delE (E:=letE) rfl _ _ rfl rfl rfl (by have h9:=HL.out;omega) (by simpa [letE] using hno.out) (by exact G.out) (by have h9:=H1.out;omega) hcs'.out ?_;rw[H1.out];intro cur1 h1 h2;have K1:=AS h1;have K2:=AS h2;clear h1 h2)
  all_goals
   go_wp2_with (refine list_clearE (E:=letE) rfl _ rfl rfl vB (setRow_heap _ g cur cur1 letE.T (0,0) (by exact G.out)) (by have h8:=K1.out;simp only[letE] at h8 ⊢;omega) ?_;intro cur2 h3 h4;have K3:=AS h3;have K4:=AS h4;clear h3 h4)
   go_ret
   exact⟨rfl,FIN.out cur1 cur2 K1.out (by rw[H1.out];exact K2.out) K3.out (by simpa [letE] using K4.out)⟩
theorem delI_any {g cap i:Nat} {xs:List Int} {w:cA} (hO:OwnE intE (J (M ⟨g,0,U⟩) xs.length cap) xs w) (hi:i < xs.length) :
  bB dA 178 #[J (M ⟨g,0,U⟩) xs.length cap,V I i,V I ((i:Int)+1)] w fun e w'=>e=.returned (J (M ⟨g,0,U⟩) (xs.length - 1) cap)/\OwnE intE (J (M ⟨g,0,U⟩) (xs.length - 1) cap) (xs.eraseIdx i) w'/\Keeps [g] w w':=by
 obtain⟨cur,hg,hnc,hcs,htk,hcm⟩:∃ cur:Array Value,w.heap[g]?=M (O cur intE.T (0,0))/\xs.length≤cap/\cur.size=cap * intE.k/\cur.toList.take (xs.length * intE.k)=flat intE xs/\cap≤9223372036854775807:=by
  rcases hO.cases with ⟨h,_⟩ | ⟨g',cap',cur,h,hg,hnc,hm,hcs,htk⟩
  ·simp at h
  ·simp at h
   obtain⟨rfl,rfl⟩:=h
   exact⟨cur,hg,hnc,hcs,htk,hm⟩
 have hrow:RowE intE w (M ⟨g,0,U⟩) xs:=by
  obtain⟨A,c,h,hr,_⟩:=OwnE.row hO
  simp at h
  rw[<- h.1] at hr
  exact hr
 have hlast:xs.length - (i+1)=(xs.drop (i+1)).length:=by simp
 have hi1:i+(xs.drop (i+1)).length=xs.length - 1:=by simp;omega
 have FIN:=AS (show ∀ cur1 cur2:Array Value,cur1.size=cap * intE.k->cur1.toList.take ((i+(xs.drop (i+1)).length) * intE.k)=cur.toList.take (i * intE.k) ++ flat intE (xs.drop (i+1))->cur2.size=cur1.size->cur2.toList.take ((xs.length - 1) * intE.k)=cur1.toList.take ((xs.length - 1) * intE.k) ->
   OwnE intE (J (M ⟨g,0,U⟩) (xs.length - 1) cap) (xs.eraseIdx i) ((w.drew.setRow g cur1).setRow g cur2)/\Keeps [g] w ((w.drew.setRow g cur1).setRow g cur2) from by
  intro cur1 cur2 h1 h2 h3 h4
  have hgd:w.drew.heap[g]?=M (O cur intE.T (0,0)):=hg
  have el:(xs.eraseIdx i).length=xs.length - 1:=by rw[List.length_eraseIdx_of_lt hi]
  refine⟨?_,⟨rfl,rfl,rfl,zB,fun k hk hne=>?_⟩⟩
  ·have:=OwnE.mk (E:=intE) (xs:=xs.eraseIdx i) (W:=(w.drew.setRow g cur1).setRow g cur2) (g:=g) (cap:=cap) (cur:=cur2) (setRow_heap _ g cur1 cur2 intE.T (0,0) (setRow_heap _ g cur cur1 intE.T (0,0) hgd)) (by rw[el];omega) hcm vB (by rw[el,h4,<- hi1,h2,List.eraseIdx_eq_take_drop_succ,flat_append,<- flat_take intE xs i vB,<- htk,List.take_take,Nat.min_eq_left (Nat.mul_le_mul_right _ vB)])
   rw[el] at this
   exact this
  ·have hk:k≠g:=fun e=>hne (by simp[e])
   exact(setRow_other _ g k _ hk).trans (setRow_other _ g k _ hk))
 have FIN0:=AS (show cap=i+1->∀ cur2:Array Value,cur2.size=cur.size->cur2.toList.take (i * intE.k)=cur.toList.take (i * intE.k) ->
   OwnE intE (J (M ⟨g,0,U⟩) i (i+1)) (xs.eraseIdx i) (w.drew.setRow g cur2)/\Keeps [g] w (w.drew.setRow g cur2) from by
  intro hc cur2 h3 h4
  have hx:xs.length=i+1:=vB
  have:=FIN.out cur cur2 hcs (by rw[List.drop_eq_nil_of_le vB];simp[flat]) h3 (by rw[hx];exact h4)
  rw[setRow_self w.drew g cur intE.T (0,0) hg,hx,hc] at this
  exact this)
 have G:=AS hg
 have R:=AS hrow
 have HL:=AS hlast
 have H1:=AS hi1
 clear hlast hi1
 have hcs':=AS hcs
 clear hO hrow hg htk hcs
 by_cases hc:cap=i+1
 ·have hx1:xs.length=i+1:=vB
  have q1:(i:Int)≤(i:Int)+1:=vB
  have q2:(0:Int)≤(i:Int):=vB
  have q3:(i:Int)≤(cap:Int):=vB
  have q4:(i:Int)+1≤(xs.length:Int):=vB
  have q5:(0:Int)≤(i:Int)+1:=vB
  have q6:(i:Int)+1≤(cap:Int):=vB
  go_enter Tryz.func178,Tryz.ntmps178
  go_wp2_with fail
  go_region_law (fail)
  all_goals
   go_wp2_with (refine list_clearE (E:=intE) rfl _ rfl rfl vB (by exact G.out) (by have h8:=hcs'.out;rw[h8,hc];show _+intE.k≤_ * intE.k;simp[intE];try omega) ?_;intro cur2 h3 h4;have K3:=AS h3;have K4:=AS h4;clear h3 h4)
   go_ret
   exact⟨by rw[hx1,hc];rfl,by have:=FIN0.out hc cur2 K3.out (by simpa [intE] using K4.out);rw[hx1,hc];exact this.1,(FIN0.out hc cur2 K3.out (by simpa [intE] using K4.out)).2⟩
 ·have hc2:i+1 < cap:=vB
  have hno:Aside0 (∀ j u,(flat intE (xs.drop (i+1)))[j]?=M u->w.drew.cell? ((⟨g,(i+1) * intE.k,U⟩:Addr).add j)=M u):=⟨by
   intro j u hu
   have hj:=(List.getElem?_eq_some_iff.1 hu).1
   rw[<- flat_drop intE xs (i+1) vB,List.getElem?_drop] at hu
   have:=RowE.news R.out _ u hu
   rw[Addr.add_lit] at this ⊢
   simpa [Nat.add_assoc] using this⟩
  have q1:(i:Int)≤(i:Int)+1:=vB
  have q2:(0:Int)≤(i:Int):=vB
  have q3:(i:Int)≤(cap:Int):=vB
  have q4:(i:Int)+1≤(xs.length:Int):=vB
  have q5:(0:Int)≤(i:Int)+1:=vB
  have q6:(i:Int)+1≤(cap:Int):=vB
  go_enter Tryz.func178,Tryz.ntmps178
  go_wp2_with fail
  go_region_law (refine step_delE (E:=intE) rfl _ _ rfl rfl rfl (by have h9:=HL.out;omega) (by simpa [intE] using hno.out) (by exact G.out) (by have h9:=H1.out;omega) hcs'.out ?_;rw[H1.out];intro cur1 h1 h2;have K1:=AS h1;have K2:=AS h2;clear h1 h2)
  all_goals
   go_wp2_with (refine list_clearE (E:=intE) rfl _ rfl rfl vB (setRow_heap _ g cur cur1 intE.T (0,0) (by exact G.out)) (by have h8:=K1.out;simp only[intE] at h8 ⊢;omega) ?_;intro cur2 h3 h4;have K3:=AS h3;have K4:=AS h4;clear h3 h4)
   go_ret
   exact⟨rfl,FIN.out cur1 cur2 K1.out (by rw[H1.out];exact K2.out) K3.out (by simpa [intE] using K4.out)⟩
end Go.Proofs.YtiebppkhaiofeaaGreat.K
namespace Go.Proofs.YtiebppkhaiofeaaGreat.K
open Go.RowKit Go.Proofs.YtiebppkhaiofeaaGreatW.PrintWords Go.Proofs.YtiebppkhaiofeaaGreat.S
attribute [local go_sem] nil39 World.cell?_alloc_some
theorem bdN (w:cA) (n:Nat):Below w.heap.size w (w.drewN n):=⟨rfl,rfl,rfl,pA _,fun _ _=>rfl⟩
theorem NetAt.keep {rm:Int} {xs:List Let} {b:Nat} {F F' G:Set_} {w w':cA} (h:NetAt rm xs b F w) (hk:KS G w w') (hs:∀ x,x < w.heap.size->F x->F' x/\¬ G x):NetAt rm xs b F' w':=by
 obtain⟨v,h1,h2,h3,h4,h5,h6⟩:=h
 exact⟨v,hk.at_ h1 (hs b (eB h1) h4).2,h2.ks hk (fun x hx=>(hs x (h2.lt x hx) (h5 x hx)).2),h3,(hs b (eB h1) h4).1,fun x hx=>(hs x (h2.lt x hx) (h5 x hx)).1,h6⟩
theorem NetAt.lt {rm:Int} {xs:List Let} {b:Nat} {F:Set_} {w:cA} (h:NetAt rm xs b F w):b < w.heap.size:=by obtain⟨v,h1,_⟩:=h;exact eB h1
theorem NetAt.mem {rm:Int} {xs:List Let} {b:Nat} {F:Set_} {w:cA} (h:NetAt rm xs b F w):F b:=by obtain⟨v,h1,h2,h3,h4,_⟩:=h;exact h4
def NetP (v:Value) (rm:Int) (xs:List Let) (b:Nat) (F:Set_) (w:cA) (e:Ending) (w':cA):Prop:=e=.returned v/\NetAt rm xs b (gr F w) w'/\KS F w w'
def roomOf (r:Int):Int:=min (max r 0) 65536
theorem roomOf_ok (r:Int):0≤roomOf r/\roomOf r≤65536:=by unfold roomOf;omega
theorem netNew_at {r n:Int} {w:cA} (h:n=roomOf r):NetAt (roomOf r) [] w.heap.size (nw w) (w.alloc (O #[V I n,J U 0 0] 118)):=by
 subst h
 have hr:=roomOf_ok r
 exact⟨_,nA w _,OwnE.nil _,by simp[foot_nil],pA _,by simp[foot_nil],hr.1,hr.2,by simpa using hr.1⟩
theorem netNew_any (r:Int) (w:cA):bB dA 22 #[V I r] w fun e w'=>e=.returned (bA (M ⟨w.heap.size,0,U⟩))/\NetAt (roomOf r) [] w.heap.size (nw w) w'/\Below w.heap.size w w':=by
 go_enter Tryz.func22,Tryz.ntmps22
 go_wp2
 all_goals
  go_ret
  exact⟨rfl,netNew_at (by unfold roomOf;omega),eA (fA _ _) _⟩
theorem netList_any {rm:Int} {xs:List Let} {b:Nat} {F:Set_} {w:cA} (hN:NetAt rm xs b F w):bB dA 37 #[bA (M ⟨b,0,U⟩)] w (NewRow letE xs w):=by
 obtain⟨v,hB,hO,hv,hb,hf,h1,h2,h3⟩:=hN
 obtain⟨A,c,rfl,hr,hc,hm,hn⟩:=hO.row
 have c1:=cw hB 1 (v:=J A xs.length c)
 have R:=AS hr
 have HC:=AS (cloneL_any (c:=c) hr hn (show _ * 80≤_ by omega))
 clear hr hO hB hf hv hn
 go_enter Tryz.func37,Tryz.ntmps37
 go_wp2_with fail
 refine HC.out.mono ?_
 rintro e w1 ⟨u,rfl,ho,hb1,hb2⟩
 go_wp2
 go_ret
 exact⟨u,rfl,ho,hb1,hb2⟩
theorem netIs_any (b:Nat) (rm:Int) (A:Option Addr) (n c:Nat) (at_:Int) (w:cA) (hB:w.heap[b]?=M (O #[V I rm,J A n c] 118 (0,0))) :
  bB dA 61 #[bA (M ⟨b,0,U⟩),V I at_] w (RQ (aA (decide (0≤at_/\at_ < n))) w):=by
 have c1:=cw hB 1 (v:=J A n c)
 clear hB
 by_cases h0:0≤at_
 ·by_cases h1:at_ < n
  all_goals
   go_enter Tryz.func61,Tryz.ntmps61
   go_wp2
   go_ret
   exact RQ.of (by simp[h0,h1])
 ·go_enter Tryz.func61,Tryz.ntmps61
  go_wp2
  go_ret
  exact RQ.of (by simp[h0];omega)
theorem netStored {rm:Int} {xs':List Let} {v v1:Value} {b:Nat} {F:Set_} {w w1:cA} (hB:w1.heap[b]?=M (O #[V I rm,v] 118 (0,0))) (hO:OwnE letE v1 xs' w1) (hk:KS F w w1) (hF:F b) (F':Set_) (hb:F' b) (hf:∀ x∈foot v1,F' x) (hv:b∉foot v1) (h0:0≤rm/\rm≤65536) (hl:(xs'.length:Int)≤rm) :
  NetAt rm xs' b F' (w1.setCell ⟨b,1,U⟩ v1)/\KS F w (w1.setCell ⟨b,1,U⟩ v1):=by
 refine⟨⟨v1,by simpa using mA hB 1 v1,?_,hv,hb,hf,h0.1,h0.2,hl⟩,hk.set (.inl hF) 1 v1⟩
 exact hO.at_ fun x hx=>Below.heap_setCell w1 ⟨b,1,U⟩ v1 x (fun e=>by have e':x=b:=e;subst e';exact hv hx)
theorem netSend_no {rm:Int} {xs ys:List Let} {b c2:Nat} {F:Set_} {A2:Option Addr} {w:cA} (hN:NetAt rm xs b F w) (hl:ys.length≤9223372036854775807) (hgo:¬ ((ys.length:Int)≤rm - xs.length)) :
  bB dA 35 #[bA (M ⟨b,0,U⟩),J A2 ys.length c2] w (NetP (aA false) rm xs b F w):=by
 have N:=AS hN
 obtain⟨v,hB,hO,hv,hb,hf,h1,h2,h3⟩:=hN
 obtain⟨A,c,rfl,hr,hc,hm,hn⟩:=hO.row
 have c0:=cw hB 0 (v:=V I rm)
 have c1:=cw hB 1 (v:=J A xs.length c)
 have hw:wrap64 (rm - (xs.length:Int))=rm - (xs.length:Int):=by unfold wrap64;omega
 have hgt:rm - (xs.length:Int) < (ys.length:Int):=vB
 clear hr hO hB hf hv hn hgo
 go_enter Tryz.func35,Tryz.ntmps35
 go_wp2_with fail
 go_quiet (fail)
 go_wp2
 go_ret
 exact⟨rfl,N.out.keep (KS.below (fun _=>False) (bdN _ _)) (fun x _ h=>⟨.inl h,id⟩),KS.below _ (bdN _ _)⟩
theorem netSend_yes {rm:Int} {xs ys:List Let} {b c2:Nat} {F:Set_} {A2:Option Addr} {w:cA} (hN:NetAt rm xs b F w) (hR:RowE letE w A2 ys) (hgo:(ys.length:Int)≤rm - xs.length) :
  bB dA 35 #[bA (M ⟨b,0,U⟩),J A2 ys.length c2] w (NetP (aA true) rm (xs ++ ys) b F w):=by
 have hbl:=hN.lt
 obtain⟨v,hB,hO,hv,hb,hf,h1,h2,h3⟩:=hN
 obtain⟨A,c,rfl,hr,hc,hm,hn⟩:=hO.row
 have c0:=cw hB 0 (v:=V I rm)
 have c1:=cw hB 1 (v:=J A xs.length c)
 have hw:wrap64 (rm - (xs.length:Int))=rm - (xs.length:Int):=by unfold wrap64;omega
 have hgt:(ys.length:Int)≤rm - (xs.length:Int):=vB
 have hgt2:¬ (rm - (xs.length:Int) < (ys.length:Int)):=vB
 have HO:=AS hO
 have HB:=AS hB
 have HR:=AS hR
 have HF:=AS (qA hb (qA hf hv))
 clear hr hO hB hf hv hn hgo hR hb
 go_enter Tryz.func35,Tryz.ntmps35
 go_wp2_with fail
 go_quiet (fail)
 have O2:=AS (HO.out.ks (KS.below (fun _=>False) (bdN w nq)) (fun _ _=>id))
 have R2:=AS (RowE.below HR.out (bdN w nq))
 go_wp2_with (at_builtin;refine list_appE (E:=letE) xB _ _ rfl rfl rfl rfl (by exact O2.out) (by exact R2.out) (by show _ * 80≤_;omega) ?_;intro v1 w1 hO1 hK hf1;obtain⟨A1,n1,k1,rfl⟩:∃ A n c,v1=J A n c:=(by obtain⟨A,c,h,_⟩:=OwnE.row hO1;exact⟨_,_,_,h⟩);have O1:=AS hO1;have K1:Aside0 (Keeps (foot (J A xs.length c)) (w.drewN nq) w1):=⟨hK⟩;have F1:Aside0 (foot (J A1 n1 k1)=foot (J A xs.length c)∨foot (J A1 n1 k1)=[w.heap.size]):=⟨hf1⟩;have B1:=AS (K1.out.at_ (kA HB.out (bdN w nq)) HF.out.2.2);clear hO1 hK hf1;have y1:w1.cell? ⟨b,1,U⟩=M (J A xs.length c):=cw B1.out 1;have z1:=jA B1.out 1)
 go_ret
 refine⟨rfl,netStored B1.out O1.out ((KS.below F (bdN w nq)).trans (KS.ofKeeps K1.out HF.out.2.1) (fun _ _ h=>h)) HF.out.1 (gr F w) (.inl HF.out.1) ?_ ?_ ⟨h1,h2⟩ (by simp;omega)⟩
 ·intro x hx
  rcases F1.out with e | e
  ·rw[e] at hx;exact .inl (HF.out.2.1 x hx)
  ·rw[e] at hx;simp at hx;exact .inr vB
 ·intro hx
  rcases F1.out with e | e
  ·rw[e] at hx;exact HF.out.2.2 hx
  ·rw[e] at hx;simp at hx;omega
def netHas (xs:List Let) (i:Int):Bool:=decide (0≤i/\i < xs.length)
theorem netTake_no {rm:Int} {xs:List Let} {b:Nat} {F:Set_} {i:Int} {w:cA} (hN:NetAt rm xs b F w) (hi:netHas xs i=false) :
  bB dA 57 #[bA (M ⟨b,0,U⟩),V I i] w (NetP (.tuple #[letV let0,aA false]) rm xs b F w):=by
 have N:=AS hN
 have hbl:=hN.lt
 obtain⟨v,hB,hO,hv,hb,hf,h1,h2,h3⟩:=hN
 obtain⟨A,c,rfl,hr,hc,hm,hn⟩:=hO.row
 have hz:w.heap.size≠b:=vB
 have HB:=AS (kA hB (eA (fA _ _) (O #[V I 0,V I 0,V I 0,V I 0,V I 0,V I 0,aA false,V I 0,aA false,aA false,V I 0] 47)))
 have hi':decide (0≤i/\i < (xs.length:Int))=false:=hi
 clear hr hO hB hf hv hn hi
 go_enter Tryz.func57,Tryz.ntmps57
 go_wp2_with fail
 refine(netIs_any b rm A xs.length c i _ HB.out).mono ?_
 rintro e w1 ⟨rfl,rfl⟩
 rw[hi']
 go_wp2
 refine yA (v:=.tuple #[letV let0,aA false]) (by simp[results,Tryz.results57,go_sem];rfl) rfl ?_
 exact⟨rfl,N.out.keep (KS.below (fun _=>False) (eA (fA _ _) _)) (fun x _ h=>⟨.inl h,id⟩),KS.below _ (eA (fA _ _) _)⟩
theorem own_some {α:Type} {E:El α} {v:Value} {xs:List α} {W:cA} {i:Nat} (h:OwnE E v xs W) (hi:i < xs.length):∃ g' cap,v=J (M ⟨g',0,U⟩) xs.length cap/\cap≤9223372036854775807/\xs.length≤cap/\g' < W.heap.size/\∀ j,j < E.k->W.cell? ⟨g',i * E.k+j,U⟩=(E.f (xs.getD i E.d))[j]?:=by
 rcases h.cases with ⟨_,hn⟩ | ⟨g',cap,cur,rfl,hg,hnc,hm,_⟩
 ·subst hn;simp at hi
 ·obtain⟨A,c,e,hr,_⟩:=h.row
  simp at e
  obtain⟨rfl,rfl⟩:=e
  obtain⟨ad,e,hc⟩:=hr i hi
  simp at e
  subst e
  refine⟨g',cap,rfl,hm,hnc,eB hg,fun j hj=>?_⟩
  have h0:=hc j hj
  rw[Addr.add_lit,Nat.zero_add] at h0
  exact h0
end Go.Proofs.YtiebppkhaiofeaaGreat.K
