/- Part of the proof of TopStarver: what functions of the program do. -/
import Derived.Test.YtiebppkhaiofeaaGreatS05
set_option maxHeartbeats 4000000
set_option maxRecDepth 100000
set_option linter.unusedVariables false
set_option linter.unusedSimpArgs false
namespace Go.Proofs.YtiebppkhaiofeaaGreat.K
open Go.RowKit Go.Proofs.YtiebppkhaiofeaaGreatW.PrintWords Go.Proofs.YtiebppkhaiofeaaGreat.S
attribute [local go_sem] World.cell?_alloc_some
open Go.ChangeMaps Go.MapKept
def RD (v:Value) (w:Go.World) (e:Ending) (w':Go.World):Prop:=e=.returned v/\∃ m,w'=w.drewN m
theorem RD.of {v v':Value} {w:Go.World} (h:v=v') (m:Nat):RD v' w (.returned v) (w.drewN m):=⟨by rw[h],m,rfl⟩
def idxI (xs:List Int) (x:Int):Int:=if x∈xs then (xs.idxOf x:Int) else -1
theorem idxI_at {xs:List Int} {x:Int} {i:Nat} (hi:i < xs.length) (h:xs.getD i 0=x) (hn:∀ j,j < i->xs.getD j 0≠x):idxI xs x=i:=by
 have hx:xs[i]=x:=by simpa [List.getD,hi] using h
 have hm:x∈xs:=by rw[<- hx];exact List.getElem_mem hi
 unfold idxI
 rw[if_pos hm]
 have h1:xs.idxOf x < xs.length:=List.idxOf_lt_length_of_mem hm
 have h2:xs[xs.idxOf x]=x:=List.getElem_idxOf h1
 have h3:¬ xs.idxOf x < i:=fun h=>hn _ h (by simp[List.getD,h1,h2])
 have h4:¬ i < xs.idxOf x:=fun h=>by
  have:=List.not_of_lt_findIdx (p:=(· == x)) (xs:=xs) h
  simp[hx] at this
 omega
theorem idxI_none {xs:List Int} {x:Int} (hn:∀ j,j < xs.length->xs.getD j 0≠x):idxI xs x = -1:=by
 unfold idxI
 rw[if_neg]
 intro hm
 obtain⟨j,hj,e⟩:=List.getElem_of_mem hm
 exact hn j hj (by simpa [List.getD,hj] using e)
theorem idxI_nat {xs:List Int} {x:Int}:(0≤idxI xs x)↔x∈xs:=by
 unfold idxI;split <;> simp_all <;> omega
theorem int_cells {g cap:Nat} {xs:List Int} {W:Go.World} (h:OwnE intE (.slice (some ⟨g,0,none⟩) xs.length cap) xs W) {i:Nat} (hi:i < xs.length):W.cell? ⟨g,i,none⟩=some (.int .i64 (xs.getD i 0)):=by
 obtain⟨g',cap',e,_,_,_,hc⟩:=own_some h hi
 simp at e
 obtain⟨rfl,rfl⟩:=e
 have:=hc 0 (by decide)
 simpa [intE] using this
theorem index_any {v:Value} {xs:List Int} {w:Go.World} (hO:OwnE intE v xs w) (x:Int):Calls Tryz.prog 177 #[v,.int .i64 x] w (RQ (.int .i64 (idxI xs x)) w):=by
 rcases hO.cases with ⟨rfl,rfl⟩ | ⟨g,cap,cur,rfl,hg,hnc,hm,-⟩
 ·rw[show idxI [] x = -1 from rfl]
  go_enter Tryz.func177,Tryz.ntmps177
  go_wp2
  go_loop [8,5] (fun v8 v5=>v8=.int .i64 0) (fun _ _=>0)
  case atStart=>rfl
  case round =>
   obtain rfl:=hrel
   go_wp2
   go_ret
   exact RQ.of rfl
 ·have O:=AS hO
  have hlen:xs.length≤9223372036854775807:=by omega
  generalize hr:idxI xs x=r
  have HR:=AS hr
  clear hO hg hr
  go_enter Tryz.func177,Tryz.ntmps177
  go_wp2
  go_loop [8,5] (fun v8 v5=>∃ i:Nat,v8=.int .i64 i/\i≤xs.length/\Aside0 (∀ j,j < i->xs.getD j 0≠x)) (fun v8 _=>xs.length+1 - (intOf v8).toNat)
  case atStart=>exact⟨0,rfl,by omega,⟨fun j hj=>absurd hj (by omega)⟩⟩
  case round =>
   obtain⟨i,rfl,hi,R⟩:=hrel
   by_cases c1:i < xs.length
   ·have q1:(i:Int) < (xs.length:Int):=by omega
    have q0:(0:Int)≤(i:Int):=by omega
    have e0:=int_cells O.out c1
    generalize hy:xs.getD i 0=y at e0
    have HY:=AS hy
    clear hy
    by_cases hxy:x=y
    ·have hb:(x == y)=true:=by simp[hxy]
     have HX:=AS hxy
     clear hxy
     go_wp2
     go_ret
     exact RQ.of (by show Value.int .i64 (i:Int)=_;rw[<- HR.out,idxI_at c1 (HY.out.trans HX.out.symm) R.out])
    ·have hb:(x == y)=false:=by simp[hxy]
     have HX:=AS hxy
     clear hxy
     go_wp2
     go_round
     case rel =>
      refine⟨i+1,by go_num,by omega,⟨fun j hj=>?_⟩⟩
      by_cases hji:j=i
      ·subst hji;rw[HY.out];exact fun h=>HX.out h.symm
      ·exact R.out j (by omega)
     case measure=>simp[intOf];omega
   ·have hin:i=xs.length:=by omega
    subst hin
    go_wp2
    go_ret
    exact RQ.of (by show Value.int .i64 (-1)=_;rw[<- HR.out,idxI_none R.out])
theorem contains_any {v:Value} {xs:List Int} {w:Go.World} (hO:OwnE intE v xs w) (x:Int):Calls Tryz.prog 164 #[v,.int .i64 x] w (RQ (.bool (xs.contains x)) w):=by
 obtain⟨A,c,rfl,-,-,hm,-⟩:=hO.row
 have HI:=AS (index_any hO x)
 generalize hr:xs.contains x=r
 have HR:=AS (show decide (0≤idxI xs x)=r by rw[<- hr];simp[idxI_nat])
 clear hO hr
 go_enter Tryz.func164,Tryz.ntmps164
 go_wp2_with fail
 refine HI.out.mono ?_
 rintro e w1 ⟨rfl,rfl⟩
 have hh:=HR.out
 generalize idxI xs x=ix at *
 go_wp2
 go_ret
 exact RQ.of (by first | rfl | (rw[<- HR.out];simp))
theorem LinAt.keep {c:Cfg} {rows:Int->List Int} {b:Nat} {F F' G:Set_} {w w':Go.World} (h:LinAt c rows b F w) (hk:KS G w w') (hs:∀ x,x < w.heap.size->F x->F' x/\¬ G x):LinAt c rows b F' w':=by
 obtain⟨K,bm,es,ck,f,h1,h2,h3,h4,h5,h6,h7,h8,h9,h10⟩:=h
 have hF:∀ x,-2≤K x->x < w.heap.size->F' x/\¬ G x:=fun x hx hl=>hs x hl (h9 x hx)
 refine⟨fun x=>if x < w.heap.size then K x else -3,bm,es,ck,f,hk.at_ h1 (hF b (by omega) (blk_lt h1)).2,hk.at_ h2 (hF bm (by omega) (blk_lt h2)).2,h3,?_,?_,?_,h7,h8,?_,h10⟩
 ·show(if b < w.heap.size then K b else -3) = -1;rw[if_pos (blk_lt h1)];exact h4
 ·show(if bm < w.heap.size then K bm else -3) = -2;rw[if_pos (blk_lt h2)];exact h5
 ·intro k v hf
  obtain⟨k0,ho,hx⟩:=h6 k v hf
  refine⟨k0,ho.ks hk (fun x hx'=>(hF x (by rw[hx x hx'];omega) (ho.lt x hx')).2),fun x hx'=>?_⟩
  show(if x < w.heap.size then K x else -3)=k;rw[if_pos (ho.lt x hx')];exact hx x hx'
 ·intro x hx
  simp only at hx
  by_cases hl:x < w.heap.size
  ·rw[if_pos hl] at hx;exact(hF x hx hl).1
  ·rw[if_neg hl] at hx;omega
theorem LinAt.lt {c:Cfg} {rows:Int->List Int} {b:Nat} {F:Set_} {w:Go.World} (h:LinAt c rows b F w):b < w.heap.size:=by obtain⟨K,bm,es,ck,f,h1,_⟩:=h;exact blk_lt h1
theorem LinAt.mem {c:Cfg} {rows:Int->List Int} {b:Nat} {F:Set_} {w:Go.World} (h:LinAt c rows b F w):F b:=by obtain⟨K,bm,es,ck,f,h1,h2,h3,h4,h5,h6,h7,h8,h9,h10⟩:=h;exact h9 b (by omega)
theorem under209:Tryz.prog.underlying 209=some (.map 3 57):=by kernel_rfl
theorem zero57 (w:Go.World):(zeroValue 57).run Tryz.prog w=.ok (.slice none 0 0) w:=by kernel_rfl
theorem linSet_any {b bm:Nat} {s ws:Int} {w:Go.World} (hB:w.heap[b]?=some (.cells #[.int .i64 s,.int .i64 ws,.map (some bm)] 211 (0,0))) (h1:1≤s) (h2:s≤64) (k:Int):Calls Tryz.prog 165 #[.pointer (some ⟨b,0,none⟩),.int .i64 k] w (RQ (.int .i64 (imod k s)) w):=by
 have c0:=cw hB 0 (v:=.int .i64 s)
 clear hB
 go_enter Tryz.func165,Tryz.ntmps165
 go_wp2_with fail
 refine(mod_any _ _ _ h1 h2).mono ?_
 rintro e w1 ⟨rfl,rfl⟩
 go_wp2
 go_ret
 exact RQ.of rfl
def lrow (f:Int->Option Value) (k:Int):Value:=(f k).getD (.slice none 0 0)
theorem linRow_any {b bm:Nat} {s ws:Int} {es:Array MapEntry} {ck:Nat} {f:Int->Option Value} {w:Go.World} (hB:w.heap[b]?=some (.cells #[.int .i64 s,.int .i64 ws,.map (some bm)] 211 (0,0))) (hM:w.heap[bm]?=some (.map es ck)) (hI:IM es ck f) (h1:1≤s) (h2:s≤64) (k:Int) {A:Option Addr} {n cp:Nat} (hv:lrow f (imod k s)=.slice A n cp):Calls Tryz.prog 163 #[.pointer (some ⟨b,0,none⟩),.int .i64 k] w (RD (.slice A n cp) w):=by
 have c2:=cw hB 2 (v:=.map (some bm))
 have hl:∀ n,(Instr.lookup 209 (.map (some bm)) (.int .i64 (imod k s)) false).run Tryz.prog (w.drewN n)=.ok (lrow f (imod k s)) (w.drewN n):=fun n=>hI.look (map_drewN hM n) under209 under3 (zero57 _) _
 rw[hv] at hl
 have HS:=AS (show ∀ n,Calls Tryz.prog 165 #[.pointer (some ⟨b,0,none⟩),.int .i64 k] (w.drewN n) (fun e w'=>e=.returned (.int .i64 (imod k s))/\w'=w.drewN n) from fun n=>(linSet_any (w:=w.drewN n) hB h1 h2 k).mono fun _ _ h=>⟨h.1,h.2.symm⟩)
 generalize imod k s=ks at *
 clear hB hM hI hv
 go_enter Tryz.func163,Tryz.ntmps163
 go_wp2_with fail
 go_quiet ((go_at_call 165;exact Calls.quiet_of_same (HS.out _)))
 go_wp2
 go_ret
 exact RD.of rfl nq
theorem LinAt.rowV {c:Cfg} {rows:Int->List Int} {b:Nat} {F:Set_} {w:Go.World} (h:LinAt c rows b F w) (k:Int):∃ A cp,OwnE intE (.slice A (rows (imod k c.sets)).length cp) (rows (imod k c.sets)) w/\(rows (imod k c.sets)).length≤16/\∀ m,Calls Tryz.prog 163 #[.pointer (some ⟨b,0,none⟩),.int .i64 k] (w.drewN m) (RD (.slice A (rows (imod k c.sets)).length cp) (w.drewN m)):=by
 obtain⟨K,bm,es,ck,f,h1,h2,h3,h4,h5,h6,h7,h8,h9,hs1,hs2,hs3,hs4⟩:=h
 have hv:∃ A cp,lrow f (imod k c.sets)=.slice A (rows (imod k c.sets)).length cp/\OwnE intE (.slice A (rows (imod k c.sets)).length cp) (rows (imod k c.sets)) w:=by
  unfold lrow
  cases hf:f (imod k c.sets) with
  | none=>rw[h7 _ hf];exact⟨none,0,rfl,OwnE.nil _⟩
  | some v =>
   obtain⟨k0,ho,-⟩:=h6 _ _ hf
   obtain⟨A,cp,rfl,-⟩:=ho.row
   exact⟨A,cp,rfl,ho⟩
 obtain⟨A,cp,hv,ho⟩:=hv
 exact⟨A,cp,ho,h8 _,fun m=>linRow_any (w:=w.drewN m) h1 h2 h3 hs1 hs2 k hv⟩
theorem linHas_any {c:Cfg} {rows:Int->List Int} {b:Nat} {F:Set_} {w:Go.World} (hL:LinAt c rows b F w) (k:Int):Calls Tryz.prog 152 #[.pointer (some ⟨b,0,none⟩),.int .i64 k] w (RD (.bool ((rows (imod k c.sets)).contains k)) w):=by
 obtain⟨A,cp,ho,-,hr⟩:=hL.rowV k
 generalize rows (imod k c.sets)=xs at *
 have H0:=AS (hr 0)
 have O:=AS (show ∀ m,OwnE intE (.slice A xs.length cp) xs (w.drewN m) from fun m=>ho.at_ (fun _ _=>rfl))
 clear hr ho hL
 generalize hq:xs.contains k=q
 have HQ:=AS hq
 clear hq
 go_enter Tryz.func152,Tryz.ntmps152
 go_wp2_with fail
 refine(H0.out:Calls _ _ _ w _).mono ?_
 rintro e w1 ⟨rfl,m,rfl⟩
 go_wp2_with fail
 refine(contains_any (O.out m) k).mono ?_
 rintro e w1 ⟨rfl,rfl⟩
 rw[HQ.out]
 go_wp2
 go_ret
 exact RD.of rfl m
def vicOf (c:Cfg) (rows:Int->List Int) (b pinned:Int):Int×Bool:=Cache.victim c ⟨rows,fun _=>b0⟩ b pinned
theorem linVictim_any {c:Cfg} {rows:Int->List Int} {b:Nat} {F:Set_} {w:Go.World} (hL:LinAt c rows b F w) (k p:Int):Calls Tryz.prog 151 #[.pointer (some ⟨b,0,none⟩),.int .i64 k,.int .i64 p] w (RD (.tuple #[.int .i64 (vicOf c rows k p).1,.bool (vicOf c rows k p).2]) w):=by
 obtain⟨A,cp,ho,hlen,hr⟩:=hL.rowV k
 have HH:=AS (show ∀ m,Calls Tryz.prog 152 #[.pointer (some ⟨b,0,none⟩),.int .i64 k] (w.drewN m) (RD (.bool ((rows (imod k c.sets)).contains k)) (w.drewN m)) from fun m=>linHas_any (F:=F) (hL.keep (KS.drewN (KS.refl (fun _=>False) w) m) (fun x _ h=>⟨h,id⟩)) k)
 have hwa:∃ bm,w.heap[b]?=some (.cells #[.int .i64 c.sets,.int .i64 c.ways,.map (some bm)] 211 (0,0)):=by obtain⟨K,bm,es,ck,f,h1,_⟩:=hL;exact⟨bm,h1⟩
 obtain⟨bm,hB⟩:=hwa
 have hw1:1≤c.ways:=by obtain⟨K,bm,es,ck,f,h1,h2,h3,h4,h5,h6,h7,h8,h9,hs1,hs2,hs3,hs4⟩:=hL;exact hs3
 have c1:=cw hB 1 (v:=.int .i64 c.ways)
 have hvic:vicOf c rows k p=if k < 0 then (-1,false) else if (rows (imod k c.sets)).contains k=true∨((rows (imod k c.sets)).length:Int) < c.ways then (-1,true) else match (rows (imod k c.sets)).find? (fun x=>x != p) with | some x=>(x,true) | none=>(-1,false):=rfl
 have HV:=AS hvic
 generalize vicOf c rows k p=vi at *
 generalize rows (imod k c.sets)=xs at *
 have H0:=AS (hr 0)
 have O:=AS (show ∀ m,OwnE intE (.slice A xs.length cp) xs (w.drewN m) from fun m=>ho.at_ (fun _ _=>rfl))
 clear hr hL hB hvic
 by_cases q1:k < 0
 ·have hv:=HV.out
  rw[if_pos q1] at hv
  subst hv
  clear ho
  go_enter Tryz.func151,Tryz.ntmps151
  go_wp2_with fail
  refine(H0.out:Calls _ _ _ w _).mono ?_
  rintro e w1 ⟨rfl,m,rfl⟩
  go_wp2
  go_ret2
  exact RD.of rfl m
 ·by_cases q2:xs.contains k=true
  ·have hv:=HV.out
   rw[if_neg q1,if_pos (.inl q2)] at hv
   subst hv
   have Q2:=AS q2
   clear q2 ho
   go_enter Tryz.func151,Tryz.ntmps151
   go_wp2_with fail
   refine(H0.out:Calls _ _ _ w _).mono ?_
   rintro e w1 ⟨rfl,m,rfl⟩
   go_wp2_with fail
   refine(HH.out m).mono ?_
   rintro e w1 ⟨rfl,m2,rfl⟩
   rw[Q2.out]
   go_wp2
   go_ret2
   exact⟨rfl,m+m2,rfl⟩
  ·have q2':xs.contains k=false:=by simpa using q2
   by_cases q3:(xs.length:Int) < c.ways
   ·have hv:=HV.out
    rw[if_neg q1,if_pos (.inr q3)] at hv
    subst hv
    have Q2:=AS q2'
    clear q2 q2' ho
    go_enter Tryz.func151,Tryz.ntmps151
    go_wp2_with fail
    refine(H0.out:Calls _ _ _ w _).mono ?_
    rintro e w1 ⟨rfl,m,rfl⟩
    go_wp2_with fail
    refine(HH.out m).mono ?_
    rintro e w1 ⟨rfl,m2,rfl⟩
    rw[Q2.out]
    go_wp2
    go_ret2
    exact⟨rfl,m+m2,rfl⟩
   ·have hv:=HV.out
    rw[if_neg q1,if_neg (by rintro(h | h);exact q2 h;exact q3 h)] at hv
    have HV2:=AS hv
    have Q2:=AS q2'
    have hcs:=ho.cases
    clear q2 q2' hv HV ho
    obtain⟨v1,v2⟩:=vi
    rcases hcs with ⟨e1,e2⟩ | ⟨g,cap,cur,e1,-⟩
    ·subst e2
     exact absurd q3 (by simp;omega)
    ·simp at e1
     obtain⟨rfl,rfl⟩:=e1
     go_enter Tryz.func151,Tryz.ntmps151
     go_wp2_with fail
     refine(H0.out:Calls _ _ _ w _).mono ?_
     rintro e w1 ⟨rfl,m,rfl⟩
     go_wp2_with fail
     refine(HH.out m).mono ?_
     rintro e w1 ⟨rfl,m2,rfl⟩
     rw[Q2.out]
     have OO:=AS (show OwnE intE (.slice (some ⟨g,0,none⟩) xs.length cp) xs w from(O.out 0).at_ (fun _ _=>rfl))
     go_wp2
     go_loop [30,10] (fun v30 _=>∃ i:Nat,v30=.int .i64 i/\i≤xs.length/\Aside0 (∀ j,j < i->xs.getD j 0=p)) (fun v30 _=>xs.length+1 - (intOf v30).toNat)
     case atStart=>exact⟨0,rfl,by omega,⟨fun j hj=>absurd hj (by omega)⟩⟩
     case round =>
      obtain⟨i,rfl,hi,R⟩:=hrel
      by_cases d1:i < xs.length
      ·have r1:(i:Int) < (xs.length:Int):=by omega
       have r0:(0:Int)≤(i:Int):=by omega
       have e0:=int_cells OO.out d1
       generalize hy:xs.getD i 0=y at e0
       have HY:=AS hy
       clear hy
       by_cases hyp:y=p
       ·have hb:(y != p)=false:=by simp[hyp]
        have HX:=AS hyp
        clear hyp
        go_wp2
        go_round
        case rel =>
         refine⟨i+1,by go_num,by omega,⟨fun j hj=>?_⟩⟩
         by_cases hji:j=i
         ·subst hji;rw[HY.out];exact HX.out
         ·exact R.out j (by omega)
        case measure=>simp[intOf];omega
       ·have hb:(y != p)=true:=by simp[hyp]
        have HX:=AS hyp
        clear hyp
        have hv:=HV2.out
        have hfi:xs.find? (fun x=>x != p)=some y:=by
         rw[List.find?_eq_some_iff_getElem]
         refine⟨hb,i,d1,by have:=HY.out;simpa [List.getD,d1] using this,fun j hj=>?_⟩
         have:=R.out j hj
         have hj2:j < xs.length:=by omega
         simp[List.getD,hj2] at this
         simp[this]
        rw[hfi] at hv
        simp at hv
        obtain⟨rfl,rfl⟩:=hv
        clear hfi
        go_wp2
        go_ret2
        exact⟨rfl,m+m2,rfl⟩
      ·have hin:i=xs.length:=by omega
       subst hin
       have hv:=HV2.out
       have hfi:xs.find? (fun x=>x != p)=none:=by
        rw[List.find?_eq_none]
        intro x hx
        obtain⟨j,hj,e⟩:=List.getElem_of_mem hx
        have:=R.out j hj
        simp[List.getD,hj] at this
        simp[<- e,this]
       rw[hfi] at hv
       simp at hv
       obtain⟨rfl,rfl⟩:=hv
       clear hfi
       go_wp2
       go_ret2
       exact⟨rfl,m+m2,rfl⟩
theorem linNew_any (c:Cfg) (hc:1≤c.sets/\c.sets≤64/\1≤c.ways/\c.ways≤16) (w:Go.World):Calls Tryz.prog 75 #[.int .i64 c.sets,.int .i64 c.ways] w fun e w'=>∃ b,e=.returned (.pointer (some ⟨b,0,none⟩))/\LinAt c (fun _=>[]) b (nw w) w'/\Below w.heap.size w w':=by
 have m1:=fun w:Go.World=>run_makeMap (P:=Tryz.prog) 209 w
 have k1:clamp c.sets 1 64=c.sets:=by unfold clamp;omega
 have k2:clamp c.ways 1 16=c.ways:=by unfold clamp;omega
 go_enter Tryz.func75,Tryz.ntmps75
 go_wp2_with fail
 refine(clamp_any _ _ _ _).mono ?_
 rintro e w1 ⟨rfl,rfl⟩
 rw[k1]
 go_wp2_with fail
 refine(clamp_any _ _ _ _).mono ?_
 rintro e w1 ⟨rfl,rfl⟩
 rw[k2]
 go_wp2
 go_ret
 refine⟨_,rfl,⟨fun x=>if x=w.heap.size+1 then -1 else if x=w.heap.size then -2 else -3,w.heap.size,#[],0,fun _=>none,?_,?_,IM.empty,?_,?_,?_,fun _ _=>rfl,fun _=>by simp,?_,hc⟩,?_⟩
 ·have:=blk_new (w.alloc (.map #[] 0)) (.cells #[.int .i64 c.sets,.int .i64 c.ways,.map (some w.heap.size)] 211);simpa using this
 ·exact blk_alloc (heap_alloc w _).1 _
 ·simp
 ·simp
 ·intro k v h;simp at h
 ·intro x hx
  show w.heap.size≤x
  simp only at hx
  split at hx
  ·omega
  ·split at hx <;> omega
 ·exact below_alloc (below_alloc (Below.refl _ _) _) _
theorem wrapEq (x:Int):IntKind.i64.wrap x=wrap64 x:=by rw[IntKind.wrap_i64];unfold wrap64;omega
def rAdd (c:Cfg) (rows:Int->List Int) (b:Int):(Int->List Int)×Bool :=
 if b < 0∨(rows (imod b c.sets)).contains b=true∨((rows (imod b c.sets)).length:Int)≥c.ways then (rows,false) else (upd rows (imod b c.sets) (rows (imod b c.sets) ++ [b]),true)
def rRemove (c:Cfg) (rows:Int->List Int) (b:Int):(Int->List Int)×Bool :=
 if (rows (imod b c.sets)).contains b then (upd rows (imod b c.sets) ((rows (imod b c.sets)).erase b),true) else (rows,false)
def rUse (c:Cfg) (rows:Int->List Int) (b:Int):(Int->List Int)×Bool:=if (rRemove c rows b).2 then rAdd c (rRemove c rows b).1 b else ((rRemove c rows b).1,false)
theorem imod_pos (n m:Int) (h:1≤m):0≤imod n m:=by
 have:=tmod_lo n m h
 unfold imod
 rw[if_neg (by omega)]
 split <;> omega
def LinP (v:Value) (c:Cfg) (rows:Int->List Int) (b:Nat) (F:Set_) (w:Go.World) (e:Ending) (w':Go.World):Prop:=e=.returned v/\LinAt c rows b (gr F w) w'/\KS F w w'
section
variable {c:Cfg} {rows:Int->List Int} {b bm:Nat} {F:Set_} {w w1:Go.World} {K:Nat->Int} {es:Array MapEntry} {ck:Nat} {f:Int->Option Value}
theorem linPut (h1:w.heap[b]?=some (.cells #[.int .i64 c.sets,.int .i64 c.ways,.map (some bm)] 211 (0,0))) (h2:w.heap[bm]?=some (.map es ck)) (h3:IM es ck f) (h4:K b = -1) (h5:K bm = -2)
  (h6:∀ k v,f k=some v->0≤k/\OwnE intE v (rows k) w/\∀ x∈foot v,K x=k) (h7:∀ k,f k=none->rows k=[]) (h8:∀ k,(rows k).length≤16) (h9:∀ x,-2≤K x->F x) (h10:1≤c.sets/\c.sets≤64/\1≤c.ways/\c.ways≤16)
  {ks:Int} {v':Value} {xs':List Int} (h0:0≤ks) (hk:KS (fun x=>K x=ks) w w1) (hO:OwnE intE v' xs' w1) (hf:∀ x∈foot v',(x < w.heap.size/\K x=ks)∨w.heap.size≤x) (hl:xs'.length≤16) :
  ∃ es' ck',(Instr.mapUpdate 209 (.map (some bm)) (.int .i64 ks) v').run Tryz.prog w1=.ok () (setBlock w1 bm (.map es' ck'))/\LinAt c (upd rows ks xs') b (gr F w) (setBlock w1 bm (.map es' ck'))/\KS F w (setBlock w1 bm (.map es' ck')):=by
 have b1:=hk.at_ h1 (by show ¬ K b=ks;omega)
 have m1:=hk.at_ h2 (by show ¬ K bm=ks;omega)
 obtain⟨es',ck',hr,hi⟩:=h3.put (w:=w1) m1 under209 under3 ks v'
 have hbm:b≠bm:=fun e=>by rw[e] at h4;omega
 refine⟨es',ck',hr,⟨fun x=>if x < w.heap.size then K x else ks,bm,es',ck',_,(set_far m1 _ hbm).trans b1,set_at m1 _,hi,?_,?_,?_,?_,?_,?_,h10⟩,?_⟩
 ·show(if b < w.heap.size then K b else ks) = -1;rw[if_pos (blk_lt h1)];exact h4
 ·show(if bm < w.heap.size then K bm else ks) = -2;rw[if_pos (blk_lt h2)];exact h5
 ·intro k v hv
  by_cases hks:k=ks
  ·subst hks
   simp[fput] at hv
   subst hv
   refine⟨h0,?_,fun x hx=>?_⟩
   ·simp only[upd,if_true]
    refine hO.at_ fun x hx=>set_far m1 _ ?_
    rintro rfl
    rcases hf _ hx with ⟨_,h⟩ | h
    ·omega
    ·have:=blk_lt h2;omega
   ·show(if x < w.heap.size then K x else k)=k
    rcases hf _ hx with ⟨h,h'⟩ | h
    ·rw[if_pos h];exact h'
    ·rw[if_neg (by omega)]
  ·simp[fput,hks] at hv
   obtain⟨k0,ho,hx⟩:=h6 k v hv
   refine⟨k0,?_,fun x hx'=>?_⟩
   ·simp only[upd,hks,if_false]
    have:=ho.ks hk (fun x hx'=>by show ¬ K x=ks;rw[hx x hx'];exact hks)
    refine this.at_ fun x hx'=>set_far m1 _ ?_
    rintro rfl
    have:=hx _ hx'
    omega
   ·show(if x < w.heap.size then K x else ks)=k
    rw[if_pos (ho.lt x hx')];exact hx x hx'
 ·intro k hv
  by_cases hks:k=ks
  ·subst hks;simp[fput] at hv
  ·simp[fput,hks] at hv
   simp only[upd,hks,if_false]
   exact h7 k hv
 ·intro k
  by_cases hks:k=ks
  ·simp only[upd,hks,if_true];exact hl
  ·simp only[upd,hks,if_false];exact h8 k
 ·intro x hx
  simp only at hx
  by_cases hl:x < w.heap.size
  ·rw[if_pos hl] at hx;exact .inl (h9 x hx)
  ·exact .inr (by omega)
 ·exact(hk.mono (fun x _ hx=>h9 x (by have:K x=ks:=hx;omega))).block (.inl (h9 bm (by omega))) _
end
theorem lrow_at {rows:Int->List Int} {w:Go.World} {K:Nat->Int} {f:Int->Option Value} (h6:∀ k v,f k=some v->0≤k/\OwnE intE v (rows k) w/\∀ x∈foot v,K x=k) (h7:∀ k,f k=none->rows k=[]) (ks:Int) :
  ∃ A cp,lrow f ks=.slice A (rows ks).length cp/\OwnE intE (.slice A (rows ks).length cp) (rows ks) w/\∀ x∈foot (.slice A (rows ks).length cp),K x=ks:=by
 unfold lrow
 cases hf:f ks with
 | none=>rw[h7 _ hf];exact⟨none,0,rfl,OwnE.nil _,by simp[foot_nil]⟩
 | some v =>
  obtain⟨k0,ho,hx⟩:=h6 _ _ hf
  obtain⟨A,cp,rfl,-⟩:=ho.row
  exact⟨A,cp,rfl,ho,hx⟩
theorem linAdd_any {c:Cfg} {rows:Int->List Int} {b:Nat} {F:Set_} {w:Go.World} (hL:LinAt c rows b F w) (k:Int):Calls Tryz.prog 154 #[.pointer (some ⟨b,0,none⟩),.int .i64 k] w (LinP (.bool (rAdd c rows k).2) c (rAdd c rows k).1 b F w):=by
 have LL:=AS (show ∀ m,LinAt c rows b (gr F w) (w.drewN m)/\KS F w (w.drewN m) from fun m=>⟨hL.keep (KS.drewN (KS.refl (fun _=>False) w) m) (fun x _ h=>⟨.inl h,id⟩),KS.drewN (KS.refl F w) m⟩)
 have HH:=AS (show ∀ m,Calls Tryz.prog 152 #[.pointer (some ⟨b,0,none⟩),.int .i64 k] (w.drewN m) (RD (.bool ((rows (imod k c.sets)).contains k)) (w.drewN m)) from fun m=>linHas_any (F:=F) (hL.keep (KS.drewN (KS.refl (fun _=>False) w) m) (fun x _ h=>⟨h,id⟩)) k)
 obtain⟨K,bm,es,ck,f,h1,h2,h3,h4,h5,h6,h7,h8,h9,hs1,hs2,hs3,hs4⟩:=hL
 have hks:=imod_pos k c.sets hs1
 obtain⟨A,cp,hv,ho,hfo⟩:=lrow_at h6 h7 (imod k c.sets)
 have H0:=AS (linRow_any (w:=w) h1 h2 h3 hs1 hs2 k hv)
 have HS:=AS (linSet_any (w:=w) h1 hs1 hs2 k)
 have c1:=cw h1 1 (v:=.int .i64 c.ways)
 have c2:=cw h1 2 (v:=.map (some bm))
 have hlen:=h8 (imod k c.sets)
 have PUT:=AS (fun(w1:Go.World) (v':Value) (xs':List Int) (hk:KS (fun x=>K x=imod k c.sets) w w1) (hO:OwnE intE v' xs' w1) (hf:∀ x∈foot v',(x < w.heap.size/\K x=imod k c.sets)∨w.heap.size≤x) (hl:xs'.length≤16)=>linPut h1 h2 h3 h4 h5 h6 h7 h8 h9 ⟨hs1,hs2,hs3,hs4⟩ hks hk hO hf hl)
 have H1:=AS (And.intro h1 (And.intro h4 hks))
 have hra:rAdd c rows k=if k < 0∨(rows (imod k c.sets)).contains k=true∨((rows (imod k c.sets)).length:Int)≥c.ways then (rows,false) else (upd rows (imod k c.sets) (rows (imod k c.sets) ++ [k]),true):=rfl
 generalize rAdd c rows k=ra at *
 generalize hxs:rows (imod k c.sets)=xs at *
 generalize hkk:imod k c.sets=ks at *
 have HKK:=AS hkk
 clear h1 h2 h3 h4 h5 h6 h7 h8 h9 hv hxs hkk
 by_cases q1:k < 0
 ·rw[if_pos (.inl q1)] at hra
  subst hra
  clear ho hfo
  go_enter Tryz.func154,Tryz.ntmps154
  go_wp2_with fail
  refine H0.out.mono ?_
  rintro e w1 ⟨rfl,m,rfl⟩
  go_wp2
  go_ret
  exact⟨rfl,LL.out m⟩
 ·by_cases q2:xs.contains k=true
  ·rw[if_pos (.inr (.inl q2))] at hra
   subst hra
   have Q2:=AS q2
   clear q2 ho hfo
   go_enter Tryz.func154,Tryz.ntmps154
   go_wp2_with fail
   refine H0.out.mono ?_
   rintro e w1 ⟨rfl,m,rfl⟩
   go_wp2_with fail
   refine(HH.out m).mono ?_
   rintro e w1 ⟨rfl,m2,rfl⟩
   rw[Q2.out]
   go_wp2
   go_ret
   exact⟨rfl,LL.out (m+m2)⟩
  ·have q2':xs.contains k=false:=by simpa using q2
   by_cases q3:(xs.length:Int)≥c.ways
   ·rw[if_pos (.inr (.inr q3))] at hra
    subst hra
    have Q2:=AS q2'
    clear q2 q2' ho hfo
    go_enter Tryz.func154,Tryz.ntmps154
    go_wp2_with fail
    refine H0.out.mono ?_
    rintro e w1 ⟨rfl,m,rfl⟩
    go_wp2_with fail
    refine(HH.out m).mono ?_
    rintro e w1 ⟨rfl,m2,rfl⟩
    rw[Q2.out]
    go_wp2
    go_ret
    exact⟨rfl,LL.out (m+m2)⟩
   ·rw[if_neg (by rintro(h | h | h);exact q1 h;exact q2 h;exact q3 h)] at hra
    subst hra
    have Q2:=AS q2'
    have HO:=AS ho
    have HFO:=AS hfo
    clear q2 q2' ho hfo
    go_enter Tryz.func154,Tryz.ntmps154
    go_wp2_with fail
    refine H0.out.mono ?_
    rintro e w1 ⟨rfl,m,rfl⟩
    go_wp2_with fail
    refine(HH.out m).mono ?_
    rintro e w1 ⟨rfl,m2,rfl⟩
    rw[Q2.out]
    go_upto_region 4 with fail
    have OA:=AS (show OwnE intE (.slice A xs.length cp) xs ((w.drewN (m+m2)).drew.alloc (.cells #[.int .i64 k] 3)) from HO.out.ks (KS.below (fun _=>False) (below_alloc (Below.drew (bdN w (m+m2))) _)) (fun _ _=>id))
    have RA:=AS (rowE_one (E:=intE) (x:=k) (blk_new (w.drewN (m+m2)).drew (.cells #[.int .i64 k] 3)))
    have HL:=AS hlen
    go_region_law (first | (refine step_appE (E:=intE) (xs:=xs) (ys:=[k]) (by kernel_rfl) _ _ rfl rfl rfl rfl (by exact OA.out) (by exact RA.out) (by have:=HL.out;show _ * 8≤_;simp;omega) ?_;intro v1 w1 hO hK hf;have KK:=AS (show KS (fun x=>K x=ks) w w1 from(KS.below _ (below_alloc (Below.drew (bdN w (m+m2))) (.cells #[.int .i64 k] 3))).trans (KS.ofKeeps hK HFO.out) (fun _ _ h=>h));obtain⟨es',ck',hrun,hfin⟩:=PUT.out w1 v1 (xs ++ [k]) KK.out hO (by intro x hx;rcases hf with e | e;exact .inl ⟨HO.out.lt x (by rw[e] at hx;exact hx),HFO.out x (by rw[e] at hx;exact hx)⟩;exact .inr (by rw[e] at hx;simp[World.drew] at hx;omega)) (by simp;omega);have FI:=AS hfin;have Y1:=AS (KK.out.at_ H1.out.1 (by have:=H1.out.2;show ¬ K b=ks;omega));obtain⟨A1,n1,k1,rfl⟩:∃ A n c,v1=.slice A n c:=(by obtain⟨A,c,h,_⟩:=OwnE.row hO;exact⟨_,_,_,h⟩);clear hfin hO hK hf;have y2:w1.cell? ⟨b,2,none⟩=some (.map (some bm)):=cw Y1.out 2) | (go_simp;go_at_call 165;refine(linSet_any (by first | exact H1.out.1 | exact blk_alloc (w:=w.drewN (m+m2+1)) H1.out.1 _) hs1 hs2 k).mono ?_;rintro e w' ⟨rfl,rfl⟩;rw[HKK.out]))
    all_goals
     go_wp2
     go_ret
     exact⟨rfl,FI.out⟩
set_option maxHeartbeats 1000000 in
theorem linRemove_any {c:Cfg} {rows:Int->List Int} {b:Nat} {F:Set_} {w:Go.World} (hL:LinAt c rows b F w) (k:Int):Calls Tryz.prog 161 #[.pointer (some ⟨b,0,none⟩),.int .i64 k] w (LinP (.bool (rRemove c rows k).2) c (rRemove c rows k).1 b F w):=by
 have LL:=AS (show ∀ m,LinAt c rows b (gr F w) (w.drewN m)/\KS F w (w.drewN m) from fun m=>⟨hL.keep (KS.drewN (KS.refl (fun _=>False) w) m) (fun x _ h=>⟨.inl h,id⟩),KS.drewN (KS.refl F w) m⟩)
 have HH:=AS (show ∀ m,Calls Tryz.prog 152 #[.pointer (some ⟨b,0,none⟩),.int .i64 k] (w.drewN m) (RD (.bool ((rows (imod k c.sets)).contains k)) (w.drewN m)) from fun m=>linHas_any (F:=F) (hL.keep (KS.drewN (KS.refl (fun _=>False) w) m) (fun x _ h=>⟨h,id⟩)) k)
 obtain⟨K,bm,es,ck,f,h1,h2,h3,h4,h5,h6,h7,h8,h9,hs1,hs2,hs3,hs4⟩:=hL
 have hks:=imod_pos k c.sets hs1
 obtain⟨A,cp,hv,ho,hfo⟩:=lrow_at h6 h7 (imod k c.sets)
 have H0:=AS (linRow_any (w:=w) h1 h2 h3 hs1 hs2 k hv)
 have HS:=AS (linSet_any (w:=w) h1 hs1 hs2 k)
 have c1:=cw h1 1 (v:=.int .i64 c.ways)
 have c2:=cw h1 2 (v:=.map (some bm))
 have hlen:=h8 (imod k c.sets)
 have PUT:=AS (fun(w1:Go.World) (v':Value) (xs':List Int) (hk:KS (fun x=>K x=imod k c.sets) w w1) (hO:OwnE intE v' xs' w1) (hf:∀ x∈foot v',(x < w.heap.size/\K x=imod k c.sets)∨w.heap.size≤x) (hl:xs'.length≤16)=>linPut h1 h2 h3 h4 h5 h6 h7 h8 h9 ⟨hs1,hs2,hs3,hs4⟩ hks hk hO hf hl)
 have H1:=AS (And.intro h1 (And.intro h4 hks))
 have hra:rRemove c rows k=if (rows (imod k c.sets)).contains k then (upd rows (imod k c.sets) ((rows (imod k c.sets)).erase k),true) else (rows,false):=rfl
 generalize rRemove c rows k=ra at *
 generalize hxs:rows (imod k c.sets)=xs at *
 generalize hkk:imod k c.sets=ks at *
 have HKK:=AS hkk
 have HI:=AS (show ∀ m,Calls Tryz.prog 177 #[.slice A xs.length cp,.int .i64 k] (w.drewN m) (RQ (.int .i64 (idxI xs k)) (w.drewN m)) from fun m=>index_any (w:=w.drewN m) (ho.at_ (fun _ _=>rfl)) k)
 clear h1 h2 h3 h4 h5 h6 h7 h8 h9 hv hxs hkk
 by_cases q2:k∈xs
 ·have q2':xs.contains k=true:=by simpa using q2
  rw[if_pos q2'] at hra
  subst hra
  have hi:xs.idxOf k < xs.length:=List.idxOf_lt_length_of_mem q2
  have hix:idxI xs k=(xs.idxOf k:Int):=if_pos q2
  have her:xs.erase k=xs.eraseIdx (xs.idxOf k):=List.erase_eq_eraseIdx_of_idxOf rfl
  rw[hix] at HI
  generalize xs.idxOf k=ix at *
  obtain⟨g,cap,hsl⟩:∃ g cap,(.slice A xs.length cp:Value)=.slice (some ⟨g,0,none⟩) xs.length cap:=by
   rcases ho.cases with ⟨e,e2⟩ | ⟨g,cap,cur,e,-⟩
   ·rw[e2] at hi;simp at hi
   ·exact⟨g,cap,e⟩
  simp at hsl
  obtain⟨rfl,rfl⟩:=hsl
  have HO:=AS ho
  have HFO:=AS (hfo g (by simp[foot_slice]))
  have HER:=AS her
  have q0:¬ ((ix:Int) < 0):=by omega
  have q5:wrap64 ((ix:Int)+1)=(ix:Int)+1:=by unfold wrap64;omega
  have q6:IntKind.i64.wrap ((ix:Int)+1)=(ix:Int)+1:=(wrapEq _).trans q5
  have HL:=AS hlen
  clear q2 q2' ho hfo hix her
  go_enter Tryz.func161,Tryz.ntmps161
  go_wp2_with fail
  refine H0.out.mono ?_
  rintro e w1 ⟨rfl,m,rfl⟩
  go_wp2_with fail
  refine(HI.out m).mono ?_
  rintro e w1 ⟨rfl,rfl⟩
  go_upto_region 5 with fail
  go_region_law (first | (go_simp;go_at_call 165;refine(linSet_any (by first | exact H1.out.1 | exact blk_alloc (w:=w.drewN (m+1)) H1.out.1 _) hs1 hs2 k).mono ?_;rintro e w' ⟨rfl,rfl⟩;rw[HKK.out]) | (go_simp;go_at_call 178;refine(delI_any (w:=w.drewN (m+1)) (HO.out.at_ (fun _ _=>rfl)) hi).mono ?_;rintro e w1 ⟨rfl,hO,hK⟩;have KK:=AS (show KS (fun x=>K x=ks) w w1 from(KS.below _ (bdN w (m+1))).trans (KS.ofKeeps hK (by intro x hx;simp at hx;subst hx;exact HFO.out)) (fun _ _ h=>h));obtain⟨es',ck',hrun,hfin⟩:=PUT.out w1 _ _ KK.out hO (by intro x hx;simp[foot_slice] at hx;subst hx;exact .inl ⟨HO.out.lt _ (by simp[foot_slice]),HFO.out⟩) (by have:=HL.out;rw[List.length_eraseIdx_of_lt hi];omega);have FI:=AS hfin;have Y1:=AS (KK.out.at_ H1.out.1 (by have:=H1.out.2;show ¬ K b=ks;omega));clear hfin hO hK;have y2:w1.cell? ⟨b,2,none⟩=some (.map (some bm)):=cw Y1.out 2))
  all_goals
   go_wp2
   go_ret
   exact⟨rfl,by rw[HER.out];exact FI.out⟩
 ·have q2':xs.contains k=false:=by simpa using q2
  rw[if_neg (by rw[q2'];simp)] at hra
  subst hra
  rw[show idxI xs k = -1 from if_neg q2] at HI
  clear q2 q2' ho hfo
  go_enter Tryz.func161,Tryz.ntmps161
  go_wp2_with fail
  refine H0.out.mono ?_
  rintro e w1 ⟨rfl,m,rfl⟩
  go_wp2_with fail
  refine(HI.out m).mono ?_
  rintro e w1 ⟨rfl,rfl⟩
  go_wp2
  go_ret
  exact⟨rfl,LL.out m⟩
theorem linUse_any {c:Cfg} {rows:Int->List Int} {b:Nat} {F:Set_} {w:Go.World} (hL:LinAt c rows b F w) (k:Int):Calls Tryz.prog 143 #[.pointer (some ⟨b,0,none⟩),.int .i64 k] w (LinP (.bool (rUse c rows k).2) c (rUse c rows k).1 b F w):=by
 have HR:=AS (linRemove_any hL k)
 have hu:rUse c rows k=if (rRemove c rows k).2 then rAdd c (rRemove c rows k).1 k else ((rRemove c rows k).1,false):=rfl
 generalize rUse c rows k=ru at *
 generalize rRemove c rows k=rr at *
 obtain⟨r1,r2⟩:=rr
 clear hL
 cases r2
 ·simp only[Bool.false_eq_true,if_false] at hu
  subst hu
  go_enter Tryz.func143,Tryz.ntmps143
  go_wp2_with fail
  refine HR.out.mono ?_
  rintro e w1 ⟨rfl,h1,h2⟩
  go_wp2
  go_ret
  exact⟨rfl,h1,h2⟩
 ·simp only[if_true] at hu
  subst hu
  go_enter Tryz.func143,Tryz.ntmps143
  go_wp2_with fail
  refine HR.out.mono ?_
  rintro e w1 ⟨rfl,h1,h2⟩
  have H1:=AS h1
  have H2:=AS h2
  clear h1 h2
  go_wp2_with fail
  refine(linAdd_any H1.out k).mono ?_
  rintro e w2 ⟨rfl,h3,h4⟩
  have HF:=AS (And.intro (h3.keep (KS.refl (fun _=>False) _) (F':=gr F w) (fun x _ h=>⟨by rcases h with (h | h) | h;exact .inl h;exact .inr h;exact .inr (by have:=H2.out.size;omega),id⟩)) (H2.out.trans h4 (fun x hx h=>by rcases h with h | h;exact h;omega)))
  clear h3 h4
  go_wp2
  go_ret
  exact⟨rfl,HF.out⟩
end Go.Proofs.YtiebppkhaiofeaaGreat.K
