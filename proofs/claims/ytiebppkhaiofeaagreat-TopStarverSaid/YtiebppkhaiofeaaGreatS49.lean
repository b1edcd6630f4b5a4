/- Part of the proof of TopStarver: what functions of the program do. -/
import Derived.Test.YtiebppkhaiofeaaGreatS48
import Derived.Test.YtiebppkhaiofeaaGreatS17
set_option maxHeartbeats 4000000
set_option maxRecDepth 100000
set_option linter.unusedVariables false
set_option linter.unusedSimpArgs false
namespace Go.Proofs.YtiebppkhaiofeaaGreat.K
open Go.RowKit Go.Proofs.YtiebppkhaiofeaaGreatW.PrintWords Go.Proofs.YtiebppkhaiofeaaGreat.S
attribute [local go_sem] World.cell?_alloc_some
open Go.ChangeMaps Go.MapKept
open Go.Shelf
attribute [local go_sem] Oper.semAt_some
def blkF (a:Int×Int×Bool) (b:Bun):Int×Int×Bool:=(wrap64 (a.1+b.count),if b.owner then wrap64 (a.2.1+1) else a.2.1,if b.owner then (a.2.2 && b.has) else a.2.2)
def blkN (bs:List Bun):Int×Int×Bool:=bs.foldl blkF (0,0,true)
theorem blkN_snoc (pre:List Bun) (b:Bun):blkN (pre ++ [b])=blkF (blkN pre) b:=by simp[blkN]
structure ShotP (Ap Ah Af:Option Addr) (cp ch cf:Nat) (ps:List PlaceR) (lss:List (List S.Line)) (hs:List Bun) (fl:List Let) (w:Go.World):Prop where
 pls:OwnE placeE (.slice Ap ps.length cp) ps w
 len:lss.length=ps.length
 lns:∀ i:Nat,i < ps.length->∃ A c,(ps.getD i placeE.d).lines=.slice A (lss.getD i []).length c/\OwnE lineE (.slice A (lss.getD i []).length c) (lss.getD i []) w
 acs:∀ i:Nat,i < ps.length->∃ B m d,(ps.getD i placeE.d).acts=.slice B m d
 hom:OwnE bunE (.slice Ah hs.length ch) hs w
 flt:OwnE letE (.slice Af fl.length cf) fl w
theorem ShotP.toR {st ti:Int} {Ap Ah Af:Option Addr} {cp ch cf:Nat} {ps:List PlaceR} {lss:List (List S.Line)} {hs:List Bun} {fl:List Let} {bs bb:Nat} {k:Int} {G:Set_} {w w':Go.World} (h:ShotP Ap Ah Af cp ch cf ps lss hs fl w) (hb:Below w.heap.size w w') (h1:w'.heap[bs]?=some (.cells #[.int .i64 st,.int .i64 ti,.slice Ap ps.length cp,.slice Ah hs.length ch,.slice Af fl.length cf] 41 (0,0))) (h2:w'.heap[bb]?=some (.cells #[.int .i64 k] 3 (0,0))) (hG:∀ x,x < w.heap.size∨x=bs∨x=bb->¬ G x):ShotR st ti Ap Ah Af cp ch cf ps lss hs fl bs bb k G w':=by
 have hk:=KS.below (fun _=>False) hb
 refine⟨h1,h2,h.pls.ks hk (fun _ _=>id),h.len,fun i hi=>?_,h.acs,h.hom.ks hk (fun _ _=>id),h.flt.ks hk (fun _ _=>id),hG _ (.inr (.inl rfl)),hG _ (.inr (.inr rfl)),fun x hx=>hG x (.inl (h.pls.lt x hx)),fun i hi x hx=>?_,fun x hx=>hG x (.inl (h.hom.lt x hx)),fun x hx=>hG x (.inl (h.flt.lt x hx))⟩
 ·obtain⟨A,c,e,ho⟩:=h.lns i hi
  exact⟨A,c,e,ho.ks hk (fun _ _=>id)⟩
 ·obtain⟨A,c,e,ho⟩:=h.lns i hi
  rw[e] at hx
  exact hG x (.inl (ho.lt x hx))
theorem ShotP.below {Ap Ah Af:Option Addr} {cp ch cf:Nat} {ps:List PlaceR} {lss:List (List S.Line)} {hs:List Bun} {fl:List Let} {w w':Go.World} (h:ShotP Ap Ah Af cp ch cf ps lss hs fl w) (hb:Below w.heap.size w w'):ShotP Ap Ah Af cp ch cf ps lss hs fl w':=by
 have hk:=KS.below (fun _=>False) hb
 refine⟨h.pls.ks hk (fun _ _=>id),h.len,fun i hi=>?_,h.acs,h.hom.ks hk (fun _ _=>id),h.flt.ks hk (fun _ _=>id)⟩
 obtain⟨A,c,e,ho⟩:=h.lns i hi
 exact⟨A,c,e,ho.ks hk (fun _ _=>id)⟩
theorem ownFrom_ks {β:Type} {G:Set_} {w0:Go.World} {B:Nat} (hG:∀ x,B≤x->G x):OwnFrom B (fun(_:β) W=>KS G w0 W):=fun _ X Y row hs hg hr =>
 ⟨hg.os.trans hs.1,hg.tape.trans hs.2.1,hg.output.trans hs.2.2.1,Nat.le_trans hs.size hg.size,fun i hi hF=>(hg.block i (Nat.lt_of_lt_of_le hi hs.size) (fun e=>hF (hG i (hr i e.symm).1))).trans (hs.2.2.2.2 i hi hF)⟩
theorem block_in (F:Fence) (n:Nat) (h43:F.fn 43) (h72:F.fn 72) (h102:F.fn 102) (hro:F.round=none) (hn:5≤n) (c:Cfg) (st ti k:Int) (Ap Ah Af:Option Addr) (cp ch cf:Nat) (ps:List PlaceR) (lss:List (List S.Line)) (hs:List Bun) (fl:List Let) (w:Go.World) (hP:ShotP Ap Ah Af cp ch cf ps lss hs fl w) (hk0:0≤k) (hk1:k < hs.length) (ho:blkN (toksB k lss hs fl)=(c.tokens,1,true)) :
  CallsIn F n Tryz.prog 43 #[.agg #[.int .i64 c.nodes,.int .i64 c.blocks,.int .i64 c.tokens,.int .i64 c.sets,.int .i64 c.ways,.int .i64 c.cap,.int .i64 c.wait,.int .i64 c.tries,.int .i64 c.policy],.agg #[.int .i64 st,.int .i64 ti,.slice Ap ps.length cp,.slice Ah hs.length ch,.slice Af fl.length cf],.int .i64 k] w fun e w'=>e=.returned (.int .i64 0)/\Below w.heap.size w w':=by
 have h1:1≤n:=by omega
 have HP:=AS hP
 have HO:=AS ho
 clear hP ho
 refine callsIn_of_wp_marks Tryz.func43 rfl h43 ?_ hro
 simp only[Tryz.ntmps43,List.size_toArray,List.length_cons,List.length_nil,Nat.reduceAdd,Nat.reduceSub,Array.replicate_succ,Array.replicate_zero,List.push_toArray,List.append_toArray,List.nil_append,List.cons_append]
 gi_wp2_with (gi_at_call 72;refine(tokens_in F (n - 1) h72 hro _ _ _ _ _ _ _).mono ?_;rintro e w' ⟨rfl,rfl⟩)
 have X0:=AS (blk_alloc (blk_alloc (blk_alloc (blk_alloc (blk_alloc (blk_alloc (show(w.alloc (.cells #[.int .i64 c.nodes,.int .i64 c.blocks,.int .i64 c.tokens,.int .i64 c.sets,.int .i64 c.ways,.int .i64 c.cap,.int .i64 c.wait,.int .i64 c.tries,.int .i64 c.policy] 23)).heap[w.heap.size]?=some (.cells #[.int .i64 c.nodes,.int .i64 c.blocks,.int .i64 c.tokens,.int .i64 c.sets,.int .i64 c.ways,.int .i64 c.cap,.int .i64 c.wait,.int .i64 c.tries,.int .i64 c.policy] 23) from blk_newE _ _ (by simp only[World.size_alloc])) (.cells #[.int .i64 st,.int .i64 ti,.slice Ap ps.length cp,.slice Ah hs.length ch,.slice Af fl.length cf] 41)) (.cells #[.int .i64 0] 3)) (.cells #[.int .i64 0] 3)) (.cells #[.bool true] 4)) (.cells #[.int .i64 st,.int .i64 ti,.slice Ap ps.length cp,.slice Ah hs.length ch,.slice Af fl.length cf] 41)) (.cells #[.int .i64 k] 3))
 have X2:=AS (blk_alloc (blk_alloc (blk_alloc (blk_alloc (show(((w.alloc (.cells #[.int .i64 c.nodes,.int .i64 c.blocks,.int .i64 c.tokens,.int .i64 c.sets,.int .i64 c.ways,.int .i64 c.cap,.int .i64 c.wait,.int .i64 c.tries,.int .i64 c.policy] 23)).alloc (.cells #[.int .i64 st,.int .i64 ti,.slice Ap ps.length cp,.slice Ah hs.length ch,.slice Af fl.length cf] 41)).alloc (.cells #[.int .i64 0] 3)).heap[w.heap.size+1+1]?=some (.cells #[.int .i64 0] 3) from blk_newE _ _ (by simp only[World.size_alloc])) (.cells #[.int .i64 0] 3)) (.cells #[.bool true] 4)) (.cells #[.int .i64 st,.int .i64 ti,.slice Ap ps.length cp,.slice Ah hs.length ch,.slice Af fl.length cf] 41)) (.cells #[.int .i64 k] 3))
 have X3:=AS (blk_alloc (blk_alloc (blk_alloc (show((((w.alloc (.cells #[.int .i64 c.nodes,.int .i64 c.blocks,.int .i64 c.tokens,.int .i64 c.sets,.int .i64 c.ways,.int .i64 c.cap,.int .i64 c.wait,.int .i64 c.tries,.int .i64 c.policy] 23)).alloc (.cells #[.int .i64 st,.int .i64 ti,.slice Ap ps.length cp,.slice Ah hs.length ch,.slice Af fl.length cf] 41)).alloc (.cells #[.int .i64 0] 3)).alloc (.cells #[.int .i64 0] 3)).heap[w.heap.size+1+1+1]?=some (.cells #[.int .i64 0] 3) from blk_newE _ _ (by simp only[World.size_alloc])) (.cells #[.bool true] 4)) (.cells #[.int .i64 st,.int .i64 ti,.slice Ap ps.length cp,.slice Ah hs.length ch,.slice Af fl.length cf] 41)) (.cells #[.int .i64 k] 3))
 have X4:=AS (blk_alloc (blk_alloc (show(((((w.alloc (.cells #[.int .i64 c.nodes,.int .i64 c.blocks,.int .i64 c.tokens,.int .i64 c.sets,.int .i64 c.ways,.int .i64 c.cap,.int .i64 c.wait,.int .i64 c.tries,.int .i64 c.policy] 23)).alloc (.cells #[.int .i64 st,.int .i64 ti,.slice Ap ps.length cp,.slice Ah hs.length ch,.slice Af fl.length cf] 41)).alloc (.cells #[.int .i64 0] 3)).alloc (.cells #[.int .i64 0] 3)).alloc (.cells #[.bool true] 4)).heap[w.heap.size+1+1+1+1]?=some (.cells #[.bool true] 4) from blk_newE _ _ (by simp only[World.size_alloc])) (.cells #[.int .i64 st,.int .i64 ti,.slice Ap ps.length cp,.slice Ah hs.length ch,.slice Af fl.length cf] 41)) (.cells #[.int .i64 k] 3))
 have X5:=AS (blk_alloc (show((((((w.alloc (.cells #[.int .i64 c.nodes,.int .i64 c.blocks,.int .i64 c.tokens,.int .i64 c.sets,.int .i64 c.ways,.int .i64 c.cap,.int .i64 c.wait,.int .i64 c.tries,.int .i64 c.policy] 23)).alloc (.cells #[.int .i64 st,.int .i64 ti,.slice Ap ps.length cp,.slice Ah hs.length ch,.slice Af fl.length cf] 41)).alloc (.cells #[.int .i64 0] 3)).alloc (.cells #[.int .i64 0] 3)).alloc (.cells #[.bool true] 4)).alloc (.cells #[.int .i64 st,.int .i64 ti,.slice Ap ps.length cp,.slice Ah hs.length ch,.slice Af fl.length cf] 41)).heap[w.heap.size+1+1+1+1+1]?=some (.cells #[.int .i64 st,.int .i64 ti,.slice Ap ps.length cp,.slice Ah hs.length ch,.slice Af fl.length cf] 41) from blk_newE _ _ (by simp only[World.size_alloc])) (.cells #[.int .i64 k] 3))
 have X6:=AS (show(((((((w.alloc (.cells #[.int .i64 c.nodes,.int .i64 c.blocks,.int .i64 c.tokens,.int .i64 c.sets,.int .i64 c.ways,.int .i64 c.cap,.int .i64 c.wait,.int .i64 c.tries,.int .i64 c.policy] 23)).alloc (.cells #[.int .i64 st,.int .i64 ti,.slice Ap ps.length cp,.slice Ah hs.length ch,.slice Af fl.length cf] 41)).alloc (.cells #[.int .i64 0] 3)).alloc (.cells #[.int .i64 0] 3)).alloc (.cells #[.bool true] 4)).alloc (.cells #[.int .i64 st,.int .i64 ti,.slice Ap ps.length cp,.slice Ah hs.length ch,.slice Af fl.length cf] 41)).alloc (.cells #[.int .i64 k] 3)).heap[w.heap.size+1+1+1+1+1+1]?=some (.cells #[.int .i64 k] 3) from blk_newE _ _ (by simp only[World.size_alloc]))
 have BB:=AS (show Below w.heap.size w (((((((w.alloc (.cells #[.int .i64 c.nodes,.int .i64 c.blocks,.int .i64 c.tokens,.int .i64 c.sets,.int .i64 c.ways,.int .i64 c.cap,.int .i64 c.wait,.int .i64 c.tries,.int .i64 c.policy] 23)).alloc (.cells #[.int .i64 st,.int .i64 ti,.slice Ap ps.length cp,.slice Ah hs.length ch,.slice Af fl.length cf] 41)).alloc (.cells #[.int .i64 0] 3)).alloc (.cells #[.int .i64 0] 3)).alloc (.cells #[.bool true] 4)).alloc (.cells #[.int .i64 st,.int .i64 ti,.slice Ap ps.length cp,.slice Ah hs.length ch,.slice Af fl.length cf] 41)).alloc (.cells #[.int .i64 k] 3)) from by repeat (with_reducible first | exact Below.refl _ _ | apply below_alloc))
 have SZ:=AS (show(((((((w.alloc (.cells #[.int .i64 c.nodes,.int .i64 c.blocks,.int .i64 c.tokens,.int .i64 c.sets,.int .i64 c.ways,.int .i64 c.cap,.int .i64 c.wait,.int .i64 c.tries,.int .i64 c.policy] 23)).alloc (.cells #[.int .i64 st,.int .i64 ti,.slice Ap ps.length cp,.slice Ah hs.length ch,.slice Af fl.length cf] 41)).alloc (.cells #[.int .i64 0] 3)).alloc (.cells #[.int .i64 0] 3)).alloc (.cells #[.bool true] 4)).alloc (.cells #[.int .i64 st,.int .i64 ti,.slice Ap ps.length cp,.slice Ah hs.length ch,.slice Af fl.length cf] 41)).alloc (.cells #[.int .i64 k] 3)).heap.size=w.heap.size+7 from by simp only[World.size_alloc])
 generalize ((((((w.alloc (.cells #[.int .i64 c.nodes,.int .i64 c.blocks,.int .i64 c.tokens,.int .i64 c.sets,.int .i64 c.ways,.int .i64 c.cap,.int .i64 c.wait,.int .i64 c.tries,.int .i64 c.policy] 23)).alloc (.cells #[.int .i64 st,.int .i64 ti,.slice Ap ps.length cp,.slice Ah hs.length ch,.slice Af fl.length cf] 41)).alloc (.cells #[.int .i64 0] 3)).alloc (.cells #[.int .i64 0] 3)).alloc (.cells #[.bool true] 4)).alloc (.cells #[.int .i64 st,.int .i64 ti,.slice Ap ps.length cp,.slice Ah hs.length ch,.slice Af fl.length cf] 41)).alloc (.cells #[.int .i64 k] 3)=W0 at X0 X2 X3 X4 X5 X6 BB SZ ⊢
 have hsz:=SZ.out
 refine wpIn_rangeFunc_ownH hro h1 (gf:=102) (lb:=#[.pointer (some ⟨w.heap.size+1+1+1+1+1,0,none⟩),.pointer (some ⟨w.heap.size+1+1+1+1+1+1,0,none⟩)]) rfl h102 (enters_of Tryz.func102 (by kernel_rfl) rfl)
  (encs:=fun x:Bun=>#[bunV x]) (Kp:=KS (fun x=>x=w.heap.size+1+1∨x=w.heap.size+1+1+1∨x=w.heap.size+1+1+1+1∨w.heap.size+7≤x)) (S:=fun ys=>ys=toksB k lss hs fl) (Sp:=fun pre=>pre <+: toksB k lss hs fl) (N:=(toksB k lss hs fl).length) (w0:=W0)
  (fun l J Jx W hW hJ _ hY h0=>tok1_in F (n - 1) h102 hro (by omega) l (w.heap.size+1+1+1+1+1) (w.heap.size+1+1+1+1+1+1) st ti k Ap Ah Af cp ch cf ps lss hs fl (fun x=>x=w.heap.size+1+1∨x=w.heap.size+1+1+1∨x=w.heap.size+1+1+1+1∨w.heap.size+7≤x) J Jx (fun pre W1 o h=>hJ pre W1 _ none h (World.grownBy_alloc W1 o none) (fun r e=>by cases e)) hY W ((HP.out.toR (G:=(fun x=>x=w.heap.size+1+1∨x=w.heap.size+1+1+1∨x=w.heap.size+1+1+1+1∨w.heap.size+7≤x)) BB.out X5.out X6.out (fun x hx=>by omega)).ks (KS.below _ hW)) hk0 hk1 h0)
  (fun h k=>h.trans k (fun _ _ h=>h))
  (fun W l o o' hl _ _ _=>(fun hg=>⟨hg.os,hg.tape,hg.output,hg.size,fun i hi hF=>hg.block i hi (fun e=>hF (by cases e;right;right;right;omega))⟩) (grownBy_putObj' W l o'))
  (Below.refl _ _) (fun _=>rfl)
  (fun pre W=>(Boxed W (w.heap.size+1+1) 3 (.int .i64 (blkN pre).1)/\Boxed W (w.heap.size+1+1+1) 3 (.int .i64 (blkN pre).2.1)/\Boxed W (w.heap.size+1+1+1+1) 4 (.bool (blkN pre).2.2))/\KS (fun x=>x=w.heap.size+1+1∨x=w.heap.size+1+1+1∨x=w.heap.size+1+1+1+1∨w.heap.size+7≤x) W0 W)
  (fun _ _ _=>False)
  (OwnFrom.and (OwnFrom.and (Own.from (boxed_own _ _ _) _) (OwnFrom.and (Own.from (boxed_own _ _ _) _) (Own.from (boxed_own _ _ _) _))) (ownFrom_ks (fun x hx=>by omega)))
  (fun _ _ _ _ _ hs _ _=>hs)
  ⟨⟨X2.out,X3.out,X4.out⟩,KS.refl _ _⟩
  (fun x a' W=>∃ Bx,w.heap.size+7≤Bx/\W.heap[Bx]?=some (.cells #[.int .i64 x.count,.bool x.owner,.bool x.has,.int .i64 x.data] 45 (0,0))/\a'={ tmps:=#[.agg #[.int .i64 c.nodes,.int .i64 c.blocks,.int .i64 c.tokens,.int .i64 c.sets,.int .i64 c.ways,.int .i64 c.cap,.int .i64 c.wait,.int .i64 c.tries,.int .i64 c.policy],.agg #[.int .i64 st,.int .i64 ti,.slice Ap ps.length cp,.slice Ah hs.length ch,.slice Af fl.length cf],.int .i64 k,.pointer (some ⟨w.heap.size,0,none⟩),.pointer (some ⟨w.heap.size+1,0,none⟩),undef,.int .i64 0,.pointer (some ⟨w.heap.size+1+1,0,none⟩),.pointer (some ⟨w.heap.size+1+1+1,0,none⟩),.pointer (some ⟨w.heap.size+1+1+1+1,0,none⟩),.pointer (some ⟨Bx,0,none⟩),.agg #[.int .i64 st,.int .i64 ti,.slice Ap ps.length cp,.slice Ah hs.length ch,.slice Af fl.length cf],.int .i64 k,.func (.func 102) #[] #[.pointer (some ⟨w.heap.size+1+1+1+1+1,0,none⟩),.pointer (some ⟨w.heap.size+1+1+1+1+1+1,0,none⟩)],bunV x,undef,undef,undef,undef,undef,undef,undef,undef,undef,undef,undef,undef,undef,undef,undef,undef,undef,undef,undef,undef,undef,undef,undef,undef],defers:=[]})
  (fun x a' _ X Y row hs hg hr=>by
   obtain⟨Bx,h1,h2,h3⟩:=hs
   refine⟨Bx,h1,(hg.block Bx (blk_lt h2) (fun e=>?_)).trans h2,h3⟩
   obtain⟨o,ho,hc⟩:=(hr Bx e.symm).2
   rw[h2] at ho
   cases ho
   cases hc)
  ?assign ?body ?done ?stop
 case assign =>
  rintro l pre x W K ⟨⟨b1,b2,b3⟩,hk⟩ hK
  have hsw:=hk.size
  obtain⟨xc,xo,xh,xd⟩:=x
  simp only[bunV]
  gi_wp2
  exact hK _ _ ((KeepsOthers.alloc _ _).from _) (KS.alloc (KS.refl _ _) _) ⟨⟨b1.alloc _,b2.alloc _,b3.alloc _⟩,hk.alloc _⟩ ⟨W.heap.size,by omega,blk_new _ _,rfl⟩
 case body =>
  rintro l pre x a' W hl ⟨r,hr⟩ ⟨⟨b1,b2,b3⟩,hk⟩ ⟨Bx,hBx,bX,rfl⟩ hlt
  have hsw:=hk.size
  have e:=blkN_snoc pre x
  have HE:=AS e
  clear e
  generalize blkN pre=Apre at b1 b2 b3 HE
  obtain⟨v1,v2,v3⟩:=Apre
  simp only at b1 b2 b3
  obtain⟨xc,xo,xh,xd⟩:=x
  simp only at bX
  have c1:=b1.cell
  have c2:=b2.cell
  have c3:=b3.cell
  have f1:=b1.frozen
  have f2:=b2.frozen
  have f3:=b3.frozen
  have x0:=cw bX 0 (v:=.int .i64 xc)
  have x1:=cw bX 1 (v:=.bool xo)
  have x2:=cw bX 2 (v:=.bool xh)
  have n2:¬ Bx=w.heap.size+1+1:=by omega
  have n3:¬ Bx=w.heap.size+1+1+1:=by omega
  have n4:¬ Bx=w.heap.size+1+1+1+1:=by omega
  cases xo with
  | false =>
   gi_wp2
   refine⟨(KeepsOthers.setCell _ _ _).from _,KS.set (KS.refl _ _) (.inl (.inl rfl)) _ _,⟨⟨?_,?_,?_⟩,KS.set hk (.inl (.inl rfl)) _ _⟩⟩
   ·rw[HE.out];exact b1.set _
   ·rw[HE.out];exact b2.other (by omega) _
   ·rw[HE.out];exact b3.other (by omega) _
  | true =>
   cases v3 with
   | false =>
    gi_wp2
    refine⟨((KeepsOthers.setCell _ _ _).trans ((KeepsOthers.setCell _ _ _).trans (KeepsOthers.setCell _ _ _))).from _,KS.set (KS.set (KS.set (KS.refl _ _) (.inl (.inl rfl)) _ _) (.inl (.inr (.inl rfl))) _ _) (.inl (.inr (.inr (.inl rfl)))) _ _,⟨⟨?_,?_,?_⟩,KS.set (KS.set (KS.set hk (.inl (.inl rfl)) _ _) (.inl (.inr (.inl rfl))) _ _) (.inl (.inr (.inr (.inl rfl)))) _ _⟩⟩
    ·rw[HE.out];exact((b1.set _).other (by omega) _).other (by omega) _
    ·rw[HE.out];exact((b2.other (by omega) _).set _).other (by omega) _
    ·rw[HE.out];exact((b3.other (by omega) _).other (by omega) _).set _
   | true =>
    gi_wp2
    refine⟨((KeepsOthers.setCell _ _ _).trans ((KeepsOthers.setCell _ _ _).trans (KeepsOthers.setCell _ _ _))).from _,KS.set (KS.set (KS.set (KS.refl _ _) (.inl (.inl rfl)) _ _) (.inl (.inr (.inl rfl))) _ _) (.inl (.inr (.inr (.inl rfl)))) _ _,⟨⟨?_,?_,?_⟩,KS.set (KS.set (KS.set hk (.inl (.inl rfl)) _ _) (.inl (.inr (.inl rfl))) _ _) (.inl (.inr (.inr (.inl rfl)))) _ _⟩⟩
    ·rw[HE.out];exact((b1.set _).other (by omega) _).other (by omega) _
    ·rw[HE.out];exact((b2.other (by omega) _).set _).other (by omega) _
    ·rw[HE.out];exact((b3.other (by omega) _).other (by omega) _).set _
 case done =>
  rintro D ys W hD rfl ⟨⟨b1,b2,b3⟩,hk⟩ hK
  have c1:=b1.cell
  have c2:=b2.cell
  have c3:=b3.cell
  rw[HO.out] at c1 c2 c3
  try simp only at c1 c2 c3
  have k2:=cw (hk.at_ X0.out (fun h=>by omega)) 2 (v:=.int .i64 c.tokens)
  gi_wp2
  refine⟨by simp,.inl ⟨_,_,rfl,run_takeDeferred hK,?_⟩⟩
  exact⟨_,results_tmp rfl _ _ _,rfl,(BB.out.trans (hk.toBelow (fun x hx=>by omega) (by omega))).trans (belowK_b (w:=w) (Nat.le_refl _) W D _ _ (by omega) hK rfl rfl)⟩
 case stop =>
  rintro D c pre W _ _ h _
  exact h.elim
theorem auditCheck_any (c:Cfg) (hb0:0≤c.blocks) (hb1:c.blocks≤64) (st ti:Int) (Ap Ah Af:Option Addr) (cp ch cf:Nat) (ps:List PlaceR) (lss:List (List S.Line)) (hs:List Bun) (fl:List Let) (w:Go.World) (hP:ShotP Ap Ah Af cp ch cf ps lss hs fl w) (hh:c.blocks≤hs.length) (ho:∀ k:Nat,(k:Int) < c.blocks->blkN (toksB k lss hs fl)=(c.tokens,1,true)) :
  Calls Tryz.prog 18 #[.agg #[.int .i64 c.nodes,.int .i64 c.blocks,.int .i64 c.tokens,.int .i64 c.sets,.int .i64 c.ways,.int .i64 c.cap,.int .i64 c.wait,.int .i64 c.tries,.int .i64 c.policy],.agg #[.int .i64 st,.int .i64 ti,.slice Ap ps.length cp,.slice Ah hs.length ch,.slice Af fl.length cf]] w fun e w'=>e=.returned (.tuple #[.int .i64 0,.int .i64 0])/\Below w.heap.size w w':=by
 obtain⟨nb,hnb⟩:∃ nb:Nat,c.blocks=nb:=⟨c.blocks.toNat,by omega⟩
 have HNB:=AS hnb
 have HMIN:=AS (show max (min c.blocks 64) 0=(nb:Int) by omega)
 clear hnb
 have BK:=AS (fun(k:Nat) (hk:(k:Int) < c.blocks) (X:Go.World) (hb:Below w.heap.size w X)=>callsIn_wide.1 (block_in Fence.wide 5 trivial trivial trivial rfl (by omega) c st ti k Ap Ah Af cp ch cf ps lss hs fl X (hP.below hb) (by omega) (by omega) (ho k hk)))
 have X0:=AS (blk_alloc (blk_new w (.cells #[.int .i64 c.nodes,.int .i64 c.blocks,.int .i64 c.tokens,.int .i64 c.sets,.int .i64 c.ways,.int .i64 c.cap,.int .i64 c.wait,.int .i64 c.tries,.int .i64 c.policy] 23)) (.cells #[.int .i64 st,.int .i64 ti,.slice Ap ps.length cp,.slice Ah hs.length ch,.slice Af fl.length cf] 41))
 have X1:=AS (show((w.alloc (.cells #[.int .i64 c.nodes,.int .i64 c.blocks,.int .i64 c.tokens,.int .i64 c.sets,.int .i64 c.ways,.int .i64 c.cap,.int .i64 c.wait,.int .i64 c.tries,.int .i64 c.policy] 23)).alloc (.cells #[.int .i64 st,.int .i64 ti,.slice Ap ps.length cp,.slice Ah hs.length ch,.slice Af fl.length cf] 41)).heap[w.heap.size+1]?=some (.cells #[.int .i64 st,.int .i64 ti,.slice Ap ps.length cp,.slice Ah hs.length ch,.slice Af fl.length cf] 41) from blk_newE _ _ (by simp only[World.size_alloc]))
 have BB:=AS (show Below w.heap.size w (((w.alloc (.cells #[.int .i64 c.nodes,.int .i64 c.blocks,.int .i64 c.tokens,.int .i64 c.sets,.int .i64 c.ways,.int .i64 c.cap,.int .i64 c.wait,.int .i64 c.tries,.int .i64 c.policy] 23)).alloc (.cells #[.int .i64 st,.int .i64 ti,.slice Ap ps.length cp,.slice Ah hs.length ch,.slice Af fl.length cf] 41))) from by repeat (with_reducible first | exact Below.refl _ _ | apply below_alloc))
 clear hP ho
 have R0:=AS (Below.refl ((w.alloc (.cells #[.int .i64 c.nodes,.int .i64 c.blocks,.int .i64 c.tokens,.int .i64 c.sets,.int .i64 c.ways,.int .i64 c.cap,.int .i64 c.wait,.int .i64 c.tries,.int .i64 c.policy] 23)).alloc (.cells #[.int .i64 st,.int .i64 ti,.slice Ap ps.length cp,.slice Ah hs.length ch,.slice Af fl.length cf] 41)).heap.size ((w.alloc (.cells #[.int .i64 c.nodes,.int .i64 c.blocks,.int .i64 c.tokens,.int .i64 c.sets,.int .i64 c.ways,.int .i64 c.cap,.int .i64 c.wait,.int .i64 c.tries,.int .i64 c.policy] 23)).alloc (.cells #[.int .i64 st,.int .i64 ti,.slice Ap ps.length cp,.slice Ah hs.length ch,.slice Af fl.length cf] 41)))
 have c1:=cw X0.out 1 (v:=.int .i64 c.blocks)
 go_enter Tryz.func18,Tryz.ntmps18
 go_upto_region 1 with fail
 generalize ((w.alloc (.cells #[.int .i64 c.nodes,.int .i64 c.blocks,.int .i64 c.tokens,.int .i64 c.sets,.int .i64 c.ways,.int .i64 c.cap,.int .i64 c.wait,.int .i64 c.tries,.int .i64 c.policy] 23)).alloc (.cells #[.int .i64 st,.int .i64 ti,.slice Ap ps.length cp,.slice Ah hs.length ch,.slice Af fl.length cf] 41))=W1 at X0 X1 BB R0 c1 ⊢
 have hmin:=HMIN.out
 go_wp2
 go_loopw [6,7,12] (fun v6 v7 v12 wr=>∃ i:Nat,v12=.int .i64 i/\i≤nb/\Aside0 (Below W1.heap.size W1 wr)) (fun _ _ v12 _=>nb+1 - (intOf v12).toNat)
 case atStart=>exact⟨0,rfl,by omega,R0⟩
 case round =>
  obtain⟨i,rfl,hi,RI⟩:=hrel
  have r1:=RI.out
  have hnb64:nb≤64:=by omega
  by_cases hcc:i < nb
  ·have q0:(0:Int)≤(i:Int):=by omega
   have q1:(i:Int) < (nb:Int):=by omega
   have e0:=cw (blk_below X0.out r1) 0 (v:=.int .i64 c.nodes)
   have e1:=cw (blk_below X0.out r1) 1 (v:=.int .i64 c.blocks)
   have e2:=cw (blk_below X0.out r1) 2 (v:=.int .i64 c.tokens)
   have e3:=cw (blk_below X0.out r1) 3 (v:=.int .i64 c.sets)
   have e4:=cw (blk_below X0.out r1) 4 (v:=.int .i64 c.ways)
   have e5:=cw (blk_below X0.out r1) 5 (v:=.int .i64 c.cap)
   have e6:=cw (blk_below X0.out r1) 6 (v:=.int .i64 c.wait)
   have e7:=cw (blk_below X0.out r1) 7 (v:=.int .i64 c.tries)
   have e8:=cw (blk_below X0.out r1) 8 (v:=.int .i64 c.policy)
   have s0:=cw (blk_below X1.out r1) 0 (v:=.int .i64 st)
   have s1:=cw (blk_below X1.out r1) 1 (v:=.int .i64 ti)
   have s2:=cw (blk_below X1.out r1) 2 (v:=.slice Ap ps.length cp)
   have s3:=cw (blk_below X1.out r1) 3 (v:=.slice Ah hs.length ch)
   have s4:=cw (blk_below X1.out r1) 4 (v:=.slice Af fl.length cf)
   have CK:=AS (BK.out i (by rw[HNB.out];exact q1) wr (BB.out.trans (r1.mono BB.out.size)))
   have R1:=AS r1
   clear r1
   go_wp2_with fail
   refine CK.out.mono ?_
   rintro e w2 ⟨rfl,hb2⟩
   have R2:=AS (R1.out.trans (hb2.mono R1.out.size))
   clear hb2 e0 e1 e2 e3 e4 e5 e6 e7 e8 s0 s1 s2 s3 s4
   go_wp2_with fail
   go_roundw
   case rel=>exact⟨i+1,by go_num,by omega,R2⟩
   case measure=>simp[intOf];omega
  ·have hin:i=nb:=by omega
   subst hin
   have R1:=AS r1
   clear r1
   go_wp2
   go_ret2
   exact⟨rfl,BB.out.trans (R1.out.mono BB.out.size)⟩
end Go.Proofs.YtiebppkhaiofeaaGreat.K
