/- Part of the proof of TopStarver: what functions of the program do. -/
import Derived.Test.YtiebppkhaiofeaaGreatS08
set_option maxHeartbeats 4000000
set_option maxRecDepth 100000
set_option linter.unusedVariables false
set_option linter.unusedSimpArgs false
namespace Go.Proofs.YtiebppkhaiofeaaGreat.K
open Go.RowKit Go.Proofs.YtiebppkhaiofeaaGreatW.PrintWords Go.Proofs.YtiebppkhaiofeaaGreat.S
attribute [local go_sem] World.cell?_alloc_some
open Go.ChangeMaps Go.MapKept
theorem cac_mk {c:Cfg} {s:Cache} {bl bt:Nat} {es:Array MapEntry} {ck:Nat} {f:Int->Option Value} {F1 G:Set_} {w2:Go.World} (hL:LinAt c s.rows bl F1 w2) (hT:w2.heap[bt]?=some (.map es ck)) (hI:IM es ck f) (hk:∀ k,(f k).getD (bunV b0)=bunV (s.tok k)) (hn:¬ F1 bt) (h1:∀ x,F1 x->G x) (h2:G bt) (hG:G w2.heap.size):CacAt c s w2.heap.size G (w2.alloc (.cells #[.pointer (some ⟨bl,0,none⟩),.map (some bt)] 177)):=by
 have hb:=below_alloc (Below.refl w2.heap.size w2) (.cells #[.pointer (some ⟨bl,0,none⟩),.map (some bt)] 177)
 have q1:=blk_lt hT
 have q2:=hL.lt
 exact⟨fun x=>F1 x/\x < w2.heap.size,bl,bt,es,ck,f,blk_new _ _,map_alloc hT _,hI,hk,hL.keep (KS.below (fun _=>False) hb) (fun x hx hF=>⟨⟨hF,hx⟩,id⟩),fun q=>by omega,fun q=>hn q.1,by omega,hG,h2,fun x hx=>h1 x hx.1,by omega⟩
def LinC (c:Cfg) (rows:Int->List Int) (w:Go.World) (e:Ending) (w':Go.World):Prop:=∃ b',e=.returned (.pointer (some ⟨b',0,none⟩))/\LinAt c rows b' (nw w) w'/\Below w.heap.size w w'
theorem cacCopy_any {c:Cfg} {s:Cache} {b:Nat} {F:Set_} {w:Go.World} (LC:∀ bl Fl W,LinAt c s.rows bl Fl W->Calls Tryz.prog 105 #[.pointer (some ⟨bl,0,none⟩)] W (LinC c s.rows W)) (hC:CacAt c s b F w):Calls Tryz.prog 78 #[.pointer (some ⟨b,0,none⟩)] w fun e w'=>∃ b',e=.returned (.pointer (some ⟨b',0,none⟩))/\CacAt c s b' (nw w) w'/\Below w.heap.size w w':=by
 obtain⟨Fl,bl,bt,es,ck,f,hB,hT,hI,hk,hL,-,-,-,-,-,-,-⟩:=hC
 have MA:=AS (show ∀ W',Below w.heap.size w W'->Calls Tryz.prog 105 #[.pointer (some ⟨bl,0,none⟩)] W' (LinC c s.rows W') from fun W' hb=>LC bl Fl W' (hL.keep (KS.below (fun _=>False) hb) (fun x _ hF=>⟨hF,id⟩)))
 have TA:=AS (show ∀ W',Below w.heap.size w W'->Calls Tryz.prog 106 #[.map (some bt)] W' (fun e w'=>∃ t,e=.returned (.map (some t))/\W'.heap.size≤t/\t < w'.heap.size/\w'.heap[t]?=some (.map es ck)/\Below W'.heap.size W' w') from fun W' hb=>(cloneMT_any (blk_below hT hb)).mono fun e w' h=>⟨W'.heap.size,h.1,Nat.le_refl _,by rw[h.2];exact blk_lt (blk_new _ _),by rw[h.2];exact blk_new _ _,by rw[h.2];exact below_alloc (Below.refl _ _) _⟩)
 have KEEP:=AS (show ∀ x,Below w.heap.size w x->(x.cell? ⟨b,0,none⟩=some (.pointer (some ⟨bl,0,none⟩))/\x.cell? ⟨b,1,none⟩=some (.map (some bt))) from fun x hx=>by have h11:=blk_below hB hx;exact⟨cw h11 0,cw h11 1⟩)
 obtain⟨e0_,e1_⟩:=KEEP.out w (Below.refl _ _)
 have MK:=AS (And.intro hI hk)
 clear hB hT hI hk hL LC
 go_enter Tryz.func78,Tryz.ntmps78
 go_upto_region 1 with fail
 go_region_held3 (fun x=>x.cell? ⟨b,0,none⟩=some (.pointer (some ⟨bl,0,none⟩))/\x.cell? ⟨b,1,none⟩=some (.map (some bt))) ((refine KEEP.out _ ?_;(repeat (with_reducible first | exact Below.refl _ _ | exact B2.out | exact B1.out | apply below_alloc | apply Below.drew)))) ((first | (go_at_call 105;refine(MA.out w.drew (Below.drew (Below.refl _ _))).mono ?_;rintro e w1 ⟨m1,rfl,hM,hb⟩;have B1:=AS (show Below w.heap.size w w1 from(Below.drew (Below.refl _ _)).trans (hb.mono (Nat.le_refl _)));have M1:=AS hM;clear hM hb) | (go_at_call 106;refine(TA.out _ B1.out).mono ?_;rintro e w2 ⟨t1,rfl,ht1,ht2,hT,hb⟩;have hs1:=B1.out.size;have hs2:=hb.size;have B2:=AS (B1.out.trans (hb.mono hs1));have FN:=AS (cac_mk (c:=c) (s:=s) (G:=nw w) (F1:=fun x=>w.heap.size≤x/\x < w1.heap.size) (M1.out.keep (KS.below (fun _=>False) hb) (fun x hx hF=>⟨⟨hF,hx⟩,id⟩)) hT MK.out.1 MK.out.2 (fun h=>by omega) (fun x h1=>h1.1) (by show _≤t1;omega) (by show _≤w2.heap.size;omega));clear hT hb hs1 hs2 ht1 ht2) | (go_at_call 106;refine(TA.out w.drew (Below.drew (Below.refl _ _))).mono ?_;rintro e w1 ⟨t1,rfl,ht1,ht2,hT,hb⟩;have B1:=AS (show Below w.heap.size w w1 from(Below.drew (Below.refl _ _)).trans (hb.mono (Nat.le_refl _)));have T1:=AS (show w.heap.size≤t1/\t1 < w1.heap.size/\_ from⟨ht1,ht2,hT⟩);clear hT hb ht1 ht2) | (go_at_call 105;refine(MA.out _ B1.out).mono ?_;rintro e w2 ⟨m1,rfl,hM,hb⟩;have hs1:=B1.out.size;have hs2:=hb.size;have B2:=AS (B1.out.trans (hb.mono hs1));have ht1:=T1.out.1;have ht2:=T1.out.2.1;have FN:=AS (cac_mk (c:=c) (s:=s) (G:=nw w) (F1:=nw w1) hM (blk_below T1.out.2.2 hb) MK.out.1 MK.out.2 (fun h=>by have h':w1.heap.size≤t1:=h;omega) (fun x h1=>by have h1':w1.heap.size≤x:=h1;show _≤x;omega) (by show _≤t1;omega) (by show _≤w2.heap.size;omega));clear hM hb hs1 hs2 ht1 ht2)))
 all_goals
  go_wp2
  go_ret
  exact⟨_,rfl,FN.out,below_alloc B2.out _⟩
theorem OwnE.cell1 {α:Type} {E:El α} {xs:List α} {W:Go.World} {g cap i j:Nat} (h:OwnE E (.slice (some ⟨g,0,none⟩) xs.length cap) xs W) (hi:i < xs.length) (hj:j < E.k) (y:α) (u:Value) (hy:E.f y=(E.f (xs.getD i E.d)).set j u) :
  OwnE E (.slice (some ⟨g,0,none⟩) xs.length cap) (xs.set i y) (W.setCell ⟨g,i * E.k+j,none⟩ u):=by
 obtain⟨g',cap',e,_,_,_,hc⟩:=own_some h hi
 simp at e
 obtain⟨rfl,rfl⟩:=e
 refine h.setElem hi y fun cur hg hs=>⟨_,blk_set hg _ _,by simp,fun q hq=>?_⟩
 have hkk:i * E.k+E.k≤xs.length * E.k:=by rw[<- Nat.succ_mul];exact Nat.mul_le_mul_right _ hi
 rw[get_set']
 by_cases hr:i * E.k≤q/\q < i * E.k+E.k
 ·rw[if_pos hr,hy]
  have hc':=hc (q - i * E.k) (by omega)
  rw[blk_cell hg,show i * E.k+(q - i * E.k)=q by omega] at hc'
  by_cases hqj:i * E.k+j=q
  ·rw[if_pos hqj,if_pos (by omega),<- hqj,show i * E.k+j - i * E.k=j by omega,List.getElem?_set_self (by rw[E.len];exact hj)]
  ·rw[if_neg hqj,hc',List.getElem?_set_ne (by omega)]
 ·rw[if_neg hr,if_neg (by omega)]
theorem arowC_q (p:ARowR):(arowC p)[70]?=some p.q:=by
 unfold arowC
 rw[List.getElem?_append_right (by simp[p.hk])]
 simp[p.hk]
def QuOk (F:Set_) (b g:Nat) (q:Value) (xs:List Int) (w:Go.World):Prop:=∃ A cp,q=.slice A xs.length cp/\RowE intE w A xs/\xs.length≤cp/\cp≤9223372036854775807/\(A=none->xs=[])/\(∀ ad,A=some ad->F ad.block/\ad.block≠b/\ad.block≠g/\ad.spot=none/\ad.block < w.heap.size)
def ArbB (a:Arb) (b g cap:Nat) (rs:List ARowR) (F:Set_) (w:Go.World):Prop :=
 w.heap[b]?=some (.cells #[.int .i64 a.nodes,.slice (some ⟨g,0,none⟩) rs.length cap] 172 (0,0))/\OwnE arowE (.slice (some ⟨g,0,none⟩) rs.length cap) rs w/\rs.map (·.r)=a.rows/\b≠g/\F b/\F g/\0≤a.nodes/\a.nodes≤64/\a.rows.length≤64/\∀ p∈rs,QuOk F b g p.q p.r.queue w
def ArbX (a:Arb) (b:Nat) (F:Set_) (w:Go.World):Prop:=∃ g cap rs,ArbB a b g cap rs F w
section
variable {a:Arb} {b g cap:Nat} {rs:List ARowR} {F F' G:Set_} {w w':Go.World}
theorem RowE.lt {α:Type} {E:El α} {ad:Addr} {xs:List α} {w:Go.World} (h:RowE E w (some ad) xs) (hn:xs≠[]):ad.block < w.heap.size:=by
 obtain⟨ad',e,hc⟩:=h 0 (by cases xs with | nil=>exact absurd rfl hn | cons x xs=>simp)
 injection e with e
 subst e
 have h0:=hc 0 E.pos
 rw[List.getElem?_eq_getElem (by rw[E.len];exact E.pos)] at h0
 have:=World.block_lt_of_cell? w _ h0
 simpa [Addr.add] using this
theorem QuOk.keep {q:Value} {xs:List Int} (h:QuOk F b g q xs w) (hk:KS G w w') (hs:∀ x,x < w.heap.size->F x->F' x/\(x≠b->x≠g->¬ G x)):QuOk F' b g q xs w':=by
 obtain⟨A,cp,e,hr,h1,h2,h3,h4⟩:=h
 refine⟨A,cp,e,?_,h1,h2,h3,fun ad had=>⟨(hs _ (h4 ad had).2.2.2.2 (h4 ad had).1).1,(h4 ad had).2.1,(h4 ad had).2.2.1,(h4 ad had).2.2.2.1,Nat.lt_of_lt_of_le (h4 ad had).2.2.2.2 hk.size⟩⟩
 cases A with
 | none=>exact fun i hi=>by rw[h3 rfl] at hi;simp at hi
 | some ad =>
  by_cases hn:xs=[]
  ·subst hn;exact fun i hi=>by simp at hi
  ·exact hr.ks hk (fun ad' e'=>by injection e' with e';subst e';obtain⟨p1,p2,p3,p4,p5⟩:=h4 ad rfl;exact(hs _ p5 p1).2 p2 p3)
theorem ArbB.keep (h:ArbB a b g cap rs F w) (hk:KS G w w') (hs:∀ x,x < w.heap.size->F x->F' x/\¬ G x):ArbB a b g cap rs F' w':=by
 obtain⟨h1,h2,h3,h4,h5,h6,h7,h8,h9,h10⟩:=h
 refine⟨hk.at_ h1 (hs b (blk_lt h1) h5).2,h2.ks hk (fun x hx=>?_),h3,h4,(hs b (blk_lt h1) h5).1,(hs g (h2.lt g (by simp[foot_slice])) h6).1,h7,h8,h9,fun p hp=>(h10 p hp).keep hk (fun x hl hx=>⟨(hs x hl hx).1,fun _ _=>(hs x hl hx).2⟩)⟩
 have hx':x=g:=by simpa [foot_slice] using hx
 subst hx'
 exact(hs x (h2.lt x hx) h6).2
theorem ArbB.lt (h:ArbB a b g cap rs F w):b < w.heap.size:=blk_lt h.1
theorem ArbB.ltg (h:ArbB a b g cap rs F w):g < w.heap.size:=h.2.1.lt g (by simp[foot_slice])
theorem ArbX.keep (h:ArbX a b F w) (hk:KS G w w') (hs:∀ x,x < w.heap.size->F x->F' x/\¬ G x):ArbX a b F' w':=by
 obtain⟨g,cap,rs,h⟩:=h
 exact⟨g,cap,rs,h.keep hk hs⟩
theorem ArbX.mem (h:ArbX a b F w):F b:=by obtain⟨g,cap,rs,h⟩:=h;exact h.2.2.2.2.1
theorem ArbX.lt (h:ArbX a b F w):b < w.heap.size:=by obtain⟨g,cap,rs,h⟩:=h;exact h.lt
theorem ArbB.len (h:ArbB a b g cap rs F w):rs.length=a.rows.length:=by rw[<- h.2.2.1,List.length_map]
theorem ArbB.row (h:ArbB a b g cap rs F w) {i:Nat} (hi:i < rs.length):a.rows.getD i ar0=(rs.getD i arowE.d).r:=by
 rw[<- h.2.2.1]
 simp[List.getD,hi]
theorem ArbB.setRow (h:ArbB a b g cap rs F w) {i:Nat} (hi:i < rs.length) (y:ARowR) {w':Go.World} (hk:KS (fun x=>x=g) w w') (hO:OwnE arowE (.slice (some ⟨g,0,none⟩) rs.length cap) (rs.set i y) w') (hq:QuOk (gr F w) b g y.q y.r.queue w'):ArbX { a with rows:=a.rows.set i y.r } b (gr F w) w'/\KS F w w':=by
 obtain⟨h1,h2,h3,h4,h5,h6,h7,h8,h9,h10⟩:=h
 refine⟨⟨g,cap,rs.set i y,?_,?_,?_,h4,.inl h5,.inl h6,h7,h8,by simpa using h9,?_⟩,hk.mono (fun x _ e=>by have e':x=g:=e;rw[e'];exact h6)⟩
 ·rw[List.length_set];exact hk.at_ h1 h4
 ·rw[List.length_set];exact hO
 ·rw[List.map_set,h3]
 ·intro p hp
  rcases List.mem_or_eq_of_mem_set hp with hp | rfl
  ·exact(h10 p hp).keep hk (fun x _ hx=>⟨.inl hx,fun _ hg=>hg⟩)
  ·exact hq
end
def ArbP (v:Value) (a:Arb) (b:Nat) (F:Set_) (w:Go.World) (e:Ending) (w':Go.World):Prop:=e=.returned v/\ArbX a b (gr F w) w'/\KS F w w'
def actO (r:Option S.Act):Value:=.tuple #[actV (r.getD act0),.bool r.isSome]
theorem arbIs_any {b m cap:Nat} {nn:Int} {A:Option Addr} {w:Go.World} (hB:w.heap[b]?=some (.cells #[.int .i64 nn,.slice A m cap] 172 (0,0))) (k n:Int):Calls Tryz.prog 148 #[.pointer (some ⟨b,0,none⟩),.int .i64 k,.int .i64 n] w (RQ (.bool (decide (k≥0) && decide (k < m) && decide (n≥0) && decide (n < nn))) w):=by
 have c0:=cw hB 0 (v:=.int .i64 nn)
 have c1:=cw hB 1 (v:=.slice A m cap)
 clear hB
 by_cases h0:0≤k
 ·by_cases h1:k < m
  ·by_cases h2:0≤n
   ·by_cases h3:n < nn
    all_goals
     go_enter Tryz.func148,Tryz.ntmps148
     go_wp2
     go_ret
     exact RQ.of (by simp[h0,h1,h2,h3])
   ·go_enter Tryz.func148,Tryz.ntmps148
    go_wp2
    go_ret
    exact RQ.of (by simp[h0,h1,h2];omega)
  ·go_enter Tryz.func148,Tryz.ntmps148
   go_wp2
   go_ret
   exact RQ.of (by simp[h0,h1];omega)
 ·go_enter Tryz.func148,Tryz.ntmps148
  go_wp2
  go_ret
  exact RQ.of (by simp[h0];omega)
theorem arbCurrent_any {a:Arb} {b:Nat} {F:Set_} {w:Go.World} (hA:ArbX a b F w) (k:Int):Calls Tryz.prog 118 #[.pointer (some ⟨b,0,none⟩),.int .i64 k] w (RV (actO (a.current k)) w):=by
 obtain⟨g,cap,rs,h⟩:=hA
 have c1:=cw h.1 1 (v:=.slice (some ⟨g,0,none⟩) rs.length cap)
 have hlen:=h.len
 have hcap:cap≤9223372036854775807:=by obtain⟨A,c,e,-,-,hm,-⟩:=h.2.1.row;simp at e;omega
 have h64:rs.length≤64:=by rw[hlen];exact h.2.2.2.2.2.2.2.2.1
 by_cases q1:k < 0
 ·rw[show a.current k=none from if_pos (.inl q1)]
  clear h
  go_enter Tryz.func118,Tryz.ntmps118
  go_wp2
  exact bodyPost_ret (v:=actO none) (by simp[results,Tryz.results118,go_sem,actO,actV,act0]) rfl ⟨rfl,by repeat (first | with_reducible exact Below.refl _ _ | with_reducible apply below_alloc | with_reducible refine Below.setCell ?_ (by dsimp only;omega) _)⟩
 ·by_cases q2:k≥(rs.length:Int)
  ·rw[show a.current k=none from if_pos (.inr (.inl (by rw[<- hlen];exact q2)))]
   clear h
   go_enter Tryz.func118,Tryz.ntmps118
   go_wp2
   exact bodyPost_ret (v:=actO none) (by simp[results,Tryz.results118,go_sem,actO,actV,act0]) rfl ⟨rfl,by repeat (first | with_reducible exact Below.refl _ _ | with_reducible apply below_alloc | with_reducible refine Below.setCell ?_ (by dsimp only;omega) _)⟩
  ·obtain⟨i,rfl⟩:∃ i:Nat,k=i:=⟨k.toNat,by omega⟩
   have hi:i < rs.length:=by omega
   obtain⟨g',cap',e,_,_,_,hc⟩:=own_some h.2.1 hi
   simp at e
   obtain⟨rfl,rfl⟩:=e
   have hrow:=h.row hi
   generalize rs.getD i arowE.d=x at *
   have e1:w.cell? ⟨g,i * 71+1,none⟩=some (.int .i64 x.r.active.block):=hc 1 (by decide)
   have e2:w.cell? ⟨g,i * 71+2,none⟩=some (.int .i64 x.r.active.node):=hc 2 (by decide)
   have e3:w.cell? ⟨g,i * 71+3,none⟩=some (.int .i64 x.r.active.seq):=hc 3 (by decide)
   have e4:w.cell? ⟨g,i * 71+4,none⟩=some (.bool x.r.on):=hc 4 (by decide)
   have hcur:a.current i=if x.r.on=false then none else some x.r.active:=by
    unfold Arb.current Arb.row
    rw[show(i:Int).toNat=i by omega,hrow]
    have:¬ ((i:Int) < 0∨(i:Int)≥a.rows.length):=by omega
    by_cases hon:x.r.on=false
    ·rw[if_pos (.inr (.inr hon)),if_pos hon]
    ·rw[if_neg (by rintro(h | h | h);omega;omega;exact hon h),if_neg hon]
   rw[hcur]
   obtain⟨⟨sq,⟨ab,an,aq⟩,on,en,kn,qu⟩,q,hh,hk⟩:=x
   simp only at e1 e2 e3 e4 ⊢
   have r0:(0:Int)≤(i:Int):=by omega
   have r1:(i:Int) < (rs.length:Int):=by omega
   clear hc h hrow hcur q1 q2 hlen
   cases on
   ·rw[if_pos rfl]
    go_enter Tryz.func118,Tryz.ntmps118
    go_wp2
    exact bodyPost_ret (v:=actO none) (by simp[results,Tryz.results118,go_sem,actO,actV,act0]) rfl ⟨rfl,by repeat (first | with_reducible exact Below.refl _ _ | with_reducible apply below_alloc | with_reducible refine Below.setCell ?_ (by dsimp only;omega) _)⟩
   ·rw[if_neg (by simp)]
    go_enter Tryz.func118,Tryz.ntmps118
    go_wp2
    exact bodyPost_ret (v:=actO (some ⟨ab,an,aq⟩)) (by simp[results,Tryz.results118,go_sem,actO,actV,act0]) rfl ⟨rfl,by repeat (first | with_reducible exact Below.refl _ _ | with_reducible apply below_alloc | with_reducible refine Below.setCell ?_ (by dsimp only;omega) _)⟩
def rw_ (sq ab an aq:Int) (on en:Bool) (kn:List Bool) (qu:List Int) (q:Value) (hq:q.oneCell'=true) (hk:kn.length=64):ARowR:=⟨⟨sq,⟨ab,an,aq⟩,on,en,kn,qu⟩,q,hq,hk⟩
theorem set_q (p:ARowR) (q':Value) (hq:q'.oneCell'=true) (qu:List Int):arowC ⟨{ p.r with queue:=qu },q',hq,p.hk⟩=(arowC p).set 70 q':=by
 unfold arowC
 rw[List.set_append_right _ _ (by simp[p.hk])]
 simp[p.hk]
theorem rowE_tail {W:Go.World} {k o:Nat} {n:Int} {qs:List Int} (h:RowE intE W (some ⟨k,o,none⟩) (n :: qs)):RowE intE W (some ⟨k,o+1,none⟩) qs:=by
 intro i hi
 obtain⟨ad,e,hc⟩:=h (i+1) (by simpa using hi)
 injection e with e
 subst e
 refine⟨_,rfl,fun j hj=>?_⟩
 have:=hc j hj
 rw[Addr.add_lit] at this ⊢
 have hk:intE.k=1:=rfl
 rw[show o+1+(i * intE.k+j)=o+((i+1) * intE.k+j) by rw[hk];omega,this]
 simp
theorem OwnE.drew_ {α:Type} {E:El α} {xs:List α} {v:Value} {W:Go.World} (h:OwnE E v xs W):OwnE E v xs W.drew:=h.at_ (fun _ _=>rfl)
theorem OwnE.cell0 {α:Type} {E:El α} {xs:List α} {W:Go.World} {g cap i:Nat} (h:OwnE E (.slice (some ⟨g,0,none⟩) xs.length cap) xs W) (hi:i < xs.length) {y:α} (hy:xs.getD i E.d=y):OwnE E (.slice (some ⟨g,0,none⟩) xs.length cap) (xs.set i y) W:=by
 have:xs.set i y=xs:=by
  refine List.ext_getElem (by simp) fun j h1 h2=>?_
  rw[List.getElem_set]
  split
  ·rename_i e;subst e;rw[<- hy];simp[List.getD,hi]
  ·rfl
 rw[this];exact h
theorem OwnE.cell2 {α:Type} {E:El α} {xs:List α} {W:Go.World} {g cap i:Nat} {y0:α} (h:OwnE E (.slice (some ⟨g,0,none⟩) xs.length cap) (xs.set i y0) W) (hi:i < xs.length) (j:Nat) (hj:j < E.k) (y:α) (u:Value) (hy:E.f y=(E.f y0).set j u):OwnE E (.slice (some ⟨g,0,none⟩) xs.length cap) (xs.set i y) (W.setCell ⟨g,i * E.k+j,none⟩ u):=by
 have hl:(xs.set i y0).length=xs.length:=by simp
 have h':OwnE E (.slice (some ⟨g,0,none⟩) (xs.set i y0).length cap) (xs.set i y0) W:=by rw[hl];exact h
 have:=h'.cell1 (i:=i) (j:=j) (by rw[hl];exact hi) hj y u (by rw[show(xs.set i y0).getD i E.d=y0 by simp[List.getD,hi]];exact hy)
 rw[hl,List.set_set] at this
 exact this
theorem own_frz {α:Type} {E:El α} {xs:List α} {W:Go.World} {g n cap:Nat} (h:OwnE E (.slice (some ⟨g,0,none⟩) n cap) xs W) (j:Nat):W.frozen? ⟨g,j,none⟩=false:=by
 rcases h.cases with ⟨e,_⟩ | ⟨g2,cap2,cur,e,hg,_⟩
 ·simp at e
 ·simp at e
  obtain⟨rfl,_⟩:=e
  exact blk_frozen hg j
theorem own_cells {α:Type} {E:El α} {xs:List α} {W:Go.World} {g cap i:Nat} {y:α} (h:OwnE E (.slice (some ⟨g,0,none⟩) xs.length cap) (xs.set i y) W) (hi:i < xs.length):∀ j,j < E.k->W.cell? ⟨g,i * E.k+j,none⟩=(E.f y)[j]?:=by
 have hl:(xs.set i y).length=xs.length:=by simp
 have h':OwnE E (.slice (some ⟨g,0,none⟩) (xs.set i y).length cap) (xs.set i y) W:=by rw[hl];exact h
 obtain⟨g',cap',e,_,_,_,hc⟩:=own_some h' (i:=i) (by rw[hl];exact hi)
 simp at e
 obtain⟨rfl,rfl⟩:=e
 rw[show(xs.set i y).getD i E.d=y by simp[List.getD,hi]] at hc
 exact hc
theorem arbNext_any {a:Arb} {b:Nat} {F:Set_} {w:Go.World} (hA:ArbX a b F w) {i:Nat} (hi0:i < a.rows.length):Calls Tryz.prog 149 #[.pointer (some ⟨b,0,none⟩),.int .i64 i] w (ArbP (actO (a.next i).2) (a.next i).1 b F w):=by
 have AB:=AS hA
 obtain⟨g,cap,rs,h⟩:=hA
 have hlen:=h.len
 have hi:i < rs.length:=by omega
 have c1:=cw h.1 1 (v:=.slice (some ⟨g,0,none⟩) rs.length cap)
 have hcap:cap≤9223372036854775807:=by obtain⟨A,c,e,-,-,hm,-⟩:=h.2.1.row;simp at e;omega
 have hbl:=h.lt
 have hgl:=h.ltg
 obtain⟨g',cap',e,_,_,_,hc⟩:=own_some h.2.1 hi
 simp at e
 obtain⟨rfl,rfl⟩:=e
 have hrow:=h.row hi
 have hmem:rs.getD i arowE.d∈rs:=by simp[List.getD,hi]
 have hqu:=h.2.2.2.2.2.2.2.2.2 _ hmem
 generalize hx:rs.getD i arowE.d=x at *
 have HX:=AS hx
 have hnx:a.next i=if x.r.on∨x.r.ending then (a,none) else match x.r.queue with
   | []=>(a,none)
   | n :: q=>(a.setRow i { x.r with seq:=wrap64 (x.r.seq+1),active:=⟨i,n,wrap64 (x.r.seq+1)⟩,on:=true,queue:=q },some ⟨i,n,wrap64 (x.r.seq+1)⟩):=by
  unfold Arb.next Arb.row
  rw[show(i:Int).toNat=i by omega,hrow]
  rfl
 rw[hnx]
 have e0:w.cell? ⟨g,i * 71,none⟩=some (.int .i64 x.r.seq):=hc 0 (by decide)
 have e1:w.cell? ⟨g,i * 71+1,none⟩=some (.int .i64 x.r.active.block):=hc 1 (by decide)
 have e2:w.cell? ⟨g,i * 71+2,none⟩=some (.int .i64 x.r.active.node):=hc 2 (by decide)
 have e3:w.cell? ⟨g,i * 71+3,none⟩=some (.int .i64 x.r.active.seq):=hc 3 (by decide)
 have e4:w.cell? ⟨g,i * 71+4,none⟩=some (.bool x.r.on):=hc 4 (by decide)
 have e5:w.cell? ⟨g,i * 71+5,none⟩=some (.bool x.r.ending):=hc 5 (by decide)
 have e70:w.cell? ⟨g,i * 71+70,none⟩=some x.q:=(hc 70 (by decide)).trans (arowC_q x)
 have HH:=AS h
 obtain⟨⟨sq,⟨ab,an,aq⟩,on,en,kn,qu⟩,q,hh,hk⟩:=x
 simp only at e0 e1 e2 e3 e4 e5 e70 hqu ⊢
 obtain⟨QA,qc,rfl,hqr,hq1,hq2,hq3,hq4⟩:=hqu
 have r0:(0:Int)≤(i:Int):=by omega
 have r1:(i:Int) < (rs.length:Int):=by omega
 clear hc h hrow hlen hi0 hnx hmem hx
 cases on
 case true =>
  rw[if_pos (.inl rfl)]
  go_enter Tryz.func149,Tryz.ntmps149
  go_wp2
  exact bodyPost_ret (v:=actO none) (by simp[results,Tryz.results149,go_sem,actO,actV,act0]) rfl ⟨rfl,(AB.out).keep (KS.below (fun _=>False) (by repeat (first | with_reducible exact Below.refl _ _ | with_reducible apply below_alloc | with_reducible refine Below.setCell ?_ (by dsimp only;omega) _))) (fun x _ h=>⟨.inl h,id⟩),KS.below _ (by repeat (first | with_reducible exact Below.refl _ _ | with_reducible apply below_alloc | with_reducible refine Below.setCell ?_ (by dsimp only;omega) _))⟩
 case false =>
  cases en
  case true =>
   rw[if_pos (.inr rfl)]
   go_enter Tryz.func149,Tryz.ntmps149
   go_wp2
   exact bodyPost_ret (v:=actO none) (by simp[results,Tryz.results149,go_sem,actO,actV,act0]) rfl ⟨rfl,(AB.out).keep (KS.below (fun _=>False) (by repeat (first | with_reducible exact Below.refl _ _ | with_reducible apply below_alloc | with_reducible refine Below.setCell ?_ (by dsimp only;omega) _))) (fun x _ h=>⟨.inl h,id⟩),KS.below _ (by repeat (first | with_reducible exact Below.refl _ _ | with_reducible apply below_alloc | with_reducible refine Below.setCell ?_ (by dsimp only;omega) _))⟩
  case false =>
   rw[if_neg (by simp)]
   cases qu with
   | nil =>
    go_enter Tryz.func149,Tryz.ntmps149
    go_wp2
    exact bodyPost_ret (v:=actO none) (by simp[results,Tryz.results149,go_sem,actO,actV,act0]) rfl ⟨rfl,(AB.out).keep (KS.below (fun _=>False) (by repeat (first | with_reducible exact Below.refl _ _ | with_reducible apply below_alloc | with_reducible refine Below.setCell ?_ (by dsimp only;omega) _))) (fun x _ h=>⟨.inl h,id⟩),KS.below _ (by repeat (first | with_reducible exact Below.refl _ _ | with_reducible apply below_alloc | with_reducible refine Below.setCell ?_ (by dsimp only;omega) _))⟩
   | cons n qs =>
    obtain⟨ad,e,hcq⟩:=hqr 0 (by simp)
    subst e
    obtain⟨qF,qb,qg,qsp,qlt⟩:=hq4 ad rfl
    obtain⟨qk,qo,qs_⟩:=ad
    simp only at qsp qF qb qg qlt
    subst qsp
    have f0:w.cell? ⟨qk,qo,none⟩=some (.int .i64 n):=by have:=hcq 0 (by decide);simpa [intE,Addr.add] using this
    have HQ:=AS hqr
    simp only[List.length_cons] at hq1 e70 hh ⊢
    have s1:(1:Int)≤((qs.length+1:Nat):Int):=by omega
    have s2:((qs.length+1:Nat):Int)≤(qc:Int):=by omega
    have HF:=AS (And.intro qF (And.intro qb qg))
    clear hcq hq4 hqr hq3
    go_enter Tryz.func149,Tryz.ntmps149
    go_upto_region 4 with fail
    have hB0:Below w.heap.size w (w.alloc (.cells #[.int .i64 0,.int .i64 0,.int .i64 0] 55)):=below_alloc (Below.refl _ _) _
    obtain⟨hcl,-⟩:=bcell hB0
    have XR:=AS (blk_new w (.cells #[.int .i64 0,.int .i64 0,.int .i64 0] 55))
    have BW:=AS hB0
    have OW:=AS ((HH.out.2.1.ks (KS.below (fun _=>False) hB0) (fun _ _=>id)).cell0 hi HX.out)
    have E0:=(hcl g (i * 71) hgl).trans e0
    have E5:=(hcl g (i * 71+5) hgl).trans e5
    have E70:=(hcl g (i * 71+70) hgl).trans e70
    have E1:=(hcl g (i * 71+1) hgl).trans e1
    have E2:=(hcl g (i * 71+2) hgl).trans e2
    have E3:=(hcl g (i * 71+3) hgl).trans e3
    have E4:=(hcl g (i * 71+4) hgl).trans e4
    have C1:=(hcl b 1 hbl).trans c1
    have hqlt:qk < w.heap.size:=HQ.out.lt (by simp)
    have F0:=(hcl qk qo hqlt).trans f0
    have FZ:=fun j=>own_frz OW.out j
    clear e0 e1 e2 e3 e4 e5 e70 c1 f0 hB0 hcl
    generalize w.alloc (.cells #[.int .i64 0,.int .i64 0,.int .i64 0] 55)=W at XR BW OW E0 E1 E2 E3 E4 E5 E70 C1 F0 FZ ⊢
    have hqg:qk≠g:=qg
    have hqg2:g≠qk:=Ne.symm qg
    go_upto_region 5 with fail
    go_cut [5] (fun v5 wx=>OwnE arowE (.slice (some ⟨g,0,none⟩) rs.length cap) (rs.set i (rw_ (wrap64 (sq+1)) i n (wrap64 (sq+1)) true false kn (n :: qs) (.slice (some ⟨qk,qo,none⟩) (qs.length+1) qc) hh hk)) wx/\KS (fun x=>x=g) W wx)
    case first =>
     have O1:=AS (OW.out.cell2 hi 0 (by decide) (rw_ (wrap64 (sq+1)) ab an aq false false kn (n :: qs) (.slice (some ⟨qk,qo,none⟩) (qs.length+1) qc) hh hk) (.int .i64 (wrap64 (sq+1))) rfl)
     have K1:=AS ((KS.refl (fun x=>x=g) W).set (g:=g) (.inl rfl) (i * 71) (.int .i64 (wrap64 (sq+1))))
     go_region
     all_goals
      go_wp2_with fail
      go_meet
      first
       | exact⟨OwnE.cell2 (OwnE.cell2 (OwnE.cell2 (OwnE.cell2 (O1.out.drew_) hi 1 (by decide) (rw_ (wrap64 (sq+1)) i an aq false false kn (n :: qs) _ hh hk) _ rfl) hi 2 (by decide) (rw_ (wrap64 (sq+1)) i n aq false false kn (n :: qs) _ hh hk) _ rfl) hi 3 (by decide) (rw_ (wrap64 (sq+1)) i n (wrap64 (sq+1)) false false kn (n :: qs) _ hh hk) _ rfl) hi 4 (by decide) (rw_ (wrap64 (sq+1)) i n (wrap64 (sq+1)) true false kn (n :: qs) _ hh hk) _ rfl,((((K1.out.drew).set (g:=g) (.inl rfl) _ _).set (g:=g) (.inl rfl) _ _).set (g:=g) (.inl rfl) _ _).set (g:=g) (.inl rfl) _ _⟩
       | exact⟨OwnE.cell2 (OwnE.cell2 (OwnE.cell2 (OwnE.cell2 (O1.out.drew_) hi 4 (by decide) (rw_ (wrap64 (sq+1)) ab an aq true false kn (n :: qs) _ hh hk) _ rfl) hi 1 (by decide) (rw_ (wrap64 (sq+1)) i an aq true false kn (n :: qs) _ hh hk) _ rfl) hi 2 (by decide) (rw_ (wrap64 (sq+1)) i n aq true false kn (n :: qs) _ hh hk) _ rfl) hi 3 (by decide) (rw_ (wrap64 (sq+1)) i n (wrap64 (sq+1)) true false kn (n :: qs) _ hh hk) _ rfl,((((K1.out.drew).set (g:=g) (.inl rfl) _ _).set (g:=g) (.inl rfl) _ _).set (g:=g) (.inl rfl) _ _).set (g:=g) (.inl rfl) _ _⟩
       | trace_state
    case rest =>
     obtain⟨hO5,hK5⟩:=hcut
     have O5:=AS hO5
     have K5:=AS hK5
     have cs:=own_cells hO5 hi
     have G1:wc.cell? ⟨g,i * 71+1,none⟩=some (.int .i64 i):=cs 1 (by decide)
     have G2:wc.cell? ⟨g,i * 71+2,none⟩=some (.int .i64 n):=cs 2 (by decide)
     have G3:wc.cell? ⟨g,i * 71+3,none⟩=some (.int .i64 (wrap64 (sq+1))):=cs 3 (by decide)
     have G70:wc.cell? ⟨g,i * 71+70,none⟩=some (.slice (some ⟨qk,qo,none⟩) (qs.length+1) qc):=(cs 70 (by decide)).trans (arowC_q _)
     have GZ:=fun j=>own_frz hO5 j
     have XR5:=AS (hK5.at_ XR.out (by show ¬ w.heap.size=g;omega))
     have hsz:=K5.out.size
     clear hO5 hK5 cs E0 E1 E2 E3 E4 E5 E70 C1 F0 FZ OW XR
     have z0:=cw XR5.out 0 (v:=.int .i64 0)
     have z1:=cw XR5.out 1 (v:=.int .i64 0)
     have z2:=cw XR5.out 2 (v:=.int .i64 0)
     have zz0:=blk_frozen XR5.out 0
     have zz1:=blk_frozen XR5.out 1
     have zz2:=blk_frozen XR5.out 2
     have hwg:w.heap.size≠g:=by omega
     have hwg2:g≠w.heap.size:=by omega
     have KW:=AS (show KS (fun x=>x=g) w wc from(KS.below _ BW.out).trans K5.out (fun _ _ h=>h))
     have FINI:=AS (show ∀ (A:Option Addr) (cp:Nat),RowE intE wc A qs->qs.length≤cp->cp≤9223372036854775807->(A=none->qs=[])->(∀ ad,A=some ad->ad.block=qk/\ad.spot=none) ->
       ArbX (a.setRow i ⟨wrap64 (sq+1),⟨i,n,wrap64 (sq+1)⟩,true,false,kn,qs⟩) b (gr F w) ((((wc.setCell ⟨g,i * 71+70,none⟩ (.slice A qs.length cp)).setCell ⟨w.heap.size,0,none⟩ (.int .i64 i)).setCell ⟨w.heap.size,1,none⟩ (.int .i64 n)).setCell ⟨w.heap.size,2,none⟩ (.int .i64 (wrap64 (sq+1))))/\KS F w ((((wc.setCell ⟨g,i * 71+70,none⟩ (.slice A qs.length cp)).setCell ⟨w.heap.size,0,none⟩ (.int .i64 i)).setCell ⟨w.heap.size,1,none⟩ (.int .i64 n)).setCell ⟨w.heap.size,2,none⟩ (.int .i64 (wrap64 (sq+1)))) from by
      intro A cp hr p1 p2 p3 p4
      have hO6:=O5.out.cell2 hi 70 (by decide) ⟨⟨wrap64 (sq+1),⟨i,n,wrap64 (sq+1)⟩,true,false,kn,qs⟩,.slice A qs.length cp,rfl,hk⟩ (.slice A qs.length cp) (set_q (rw_ (wrap64 (sq+1)) i n (wrap64 (sq+1)) true false kn (n :: qs) (.slice (some ⟨qk,qo,none⟩) (qs.length+1) qc) hh hk) (.slice A qs.length cp) rfl qs)
      have hk7:=((((KW.out.set (g:=g) (.inl rfl) (i * 71+70) (.slice A qs.length cp)).set (g:=w.heap.size) (.inr (Nat.le_refl _)) 0 (.int .i64 i)).set (g:=w.heap.size) (.inr (Nat.le_refl _)) 1 (.int .i64 n)).set (g:=w.heap.size) (.inr (Nat.le_refl _)) 2 (.int .i64 (wrap64 (sq+1))))
      have hk8:=(((KS.refl (fun x=>x=w.heap.size) (wc.setCell ⟨g,i * 71+70,none⟩ (.slice A qs.length cp))).set (g:=w.heap.size) (.inl rfl) 0 (.int .i64 i)).set (g:=w.heap.size) (.inl rfl) 1 (.int .i64 n)).set (g:=w.heap.size) (.inl rfl) 2 (.int .i64 (wrap64 (sq+1)))
      have hk9:=((((KS.refl (fun x=>x=g∨x=w.heap.size) wc).set (g:=g) (.inl (.inl rfl)) (i * 71+70) (.slice A qs.length cp)).set (g:=w.heap.size) (.inl (.inr rfl)) 0 (.int .i64 i)).set (g:=w.heap.size) (.inl (.inr rfl)) 1 (.int .i64 n)).set (g:=w.heap.size) (.inl (.inr rfl)) 2 (.int .i64 (wrap64 (sq+1)))
      exact HH.out.setRow hi ⟨⟨wrap64 (sq+1),⟨i,n,wrap64 (sq+1)⟩,true,false,kn,qs⟩,.slice A qs.length cp,rfl,hk⟩ hk7 (hO6.ks hk8 (fun x hx e=>hwg2 ((by simpa [foot_slice] using hx:x=g).symm.trans e))) ⟨A,cp,rfl,hr.ks hk9 (fun ad e=>by
        rw[(p4 ad e).1]
        rintro(h | h)
        ·exact hqg h
        ·omega),p1,p2,p3,fun ad e=>by rw[(p4 ad e).1];exact⟨.inl HF.out.1,HF.out.2.1,HF.out.2.2,(p4 ad e).2,Nat.lt_of_lt_of_le hqlt hk7.size⟩⟩)
     have HQ5:=AS (HQ.out.ks KW.out (fun ad e=>by injection e with e;subst e;exact hqg))
     go_upto_region 6 with fail
     by_cases hqc:qc=1
     ·have hql:qs=[]:=by cases qs with | nil=>rfl | cons x xs=>simp at hq1;omega
      subst hql
      subst hqc
      simp only[List.length_nil,Nat.zero_add] at s1 s2 G70 hh ⊢
      go_wp2
      refine bodyPost_ret (v:=actO (some ⟨i,n,wrap64 (sq+1)⟩)) (by simp[results,Tryz.results149,go_sem,actO,actV,z0,z1,z2,hwg,hwg2]) rfl ⟨rfl,FINI.out (some ⟨qk,qo,none⟩) 0 (fun j hj=>by simp at hj) (by simp) (by omega) (by simp) (fun ad e=>by injection e with e;subst e;exact⟨rfl,rfl⟩)⟩
     ·have s3:(1:Int) < (qc:Int):=by omega
      go_wp2
      refine bodyPost_ret (v:=actO (some ⟨i,n,wrap64 (sq+1)⟩)) (by simp[results,Tryz.results149,go_sem,actO,actV,z0,z1,z2,hwg,hwg2]) rfl ⟨rfl,FINI.out (some ⟨qk,qo+1,none⟩) (qc - 1) (rowE_tail HQ5.out) (by omega) (by omega) (by simp) (fun ad e=>by injection e with e;subst e;exact⟨rfl,rfl⟩)⟩
end Go.Proofs.YtiebppkhaiofeaaGreat.K
