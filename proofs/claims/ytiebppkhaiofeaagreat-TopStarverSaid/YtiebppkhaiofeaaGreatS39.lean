/- Part of the proof of TopStarver: what functions of the program do. -/
import Derived.Test.YtiebppkhaiofeaaGreatS37
set_option maxHeartbeats 4000000
set_option maxRecDepth 100000
set_option linter.unusedVariables false
set_option linter.unusedSimpArgs false
namespace Go.Proofs.YtiebppkhaiofeaaGreat.K
open Go.RowKit Go.Proofs.YtiebppkhaiofeaaGreatW.PrintWords Go.Proofs.YtiebppkhaiofeaaGreat.S
attribute [local go_sem] World.cell?_alloc_some
open Go.ChangeMaps Go.MapKept
def PlaceOk (n:S.Node) (p:PlaceR) (B:Nat) (w:Go.World):Prop:=p.busy=n.cpu.busy/\p.op=n.cpu.op/\LinesV n p.lines B w/\ActsV n p.acts B w
theorem PlaceOk.ks {n:S.Node} {p:PlaceR} {B:Nat} {G:Set_} {w w':Go.World} (h:PlaceOk n p B w) (hk:KS G w w') (h1:∀ x∈foot p.lines,¬ G x) (h2:∀ x∈foot p.acts,¬ G x):PlaceOk n p B w' :=
 ⟨h.1,h.2.1,⟨h.2.2.1.1.imp fun ks k=>⟨k.1,k.2.1,k.2.2.ks hk h1⟩,h.2.2.1.2⟩,⟨h.2.2.2.1.imp fun ks k=>⟨k.1,k.2.1,k.2.2.ks hk h2⟩,h.2.2.2.2⟩⟩
structure PlacesOk (ns:List S.Node) (ps:List PlaceR) (B:Nat) (w:Go.World):Prop where
 len:ps.length≤ns.length
 ok:∀ i:Nat,i < ps.length->PlaceOk (ns.getD i (S.Node.new i)) (ps.getD i placeE.d) B w
def ShotV (s:S.World) (Ap Ah Af:Option Addr) (np cp nh ch nf cf:Nat) (ps:List PlaceR) (B:Nat) (w:Go.World):Prop :=
 OwnE placeE (.slice Ap np cp) ps w/\np=ps.length/\ps.length=s.nodes.length/\PlacesOk s.nodes ps B w/\OwnE bunE (.slice Ah nh ch) s.home.mem w/\OwnE letE (.slice Af nf cf) s.way w/\nh=s.home.mem.length/\nf=s.way.length
def shotV (s:S.World) (Ap Ah Af:Option Addr) (np cp nh ch nf cf:Nat):Value:=.agg #[.int .i64 s.steps,.int .i64 s.ticks,.slice Ap np cp,.slice Ah nh ch,.slice Af nf cf]
theorem places_act {c:Cfg} {s:S.World} (hs:WOk c s) (hc:c.check=0) {i:Nat} (hi:i < s.nodes.length):∀ k,((s.nodes.getD i (S.Node.new i)).know.act k).isSome->0≤k/\k < 64:=fun k hk=>by
 obtain⟨-,-,-,-,-,-,-,-,-,-,-,-,hn1,hn2,hb1,hb2,-,-⟩:=check_ok hc
 obtain⟨a,ha⟩:=Option.isSome_iff_exists.1 hk
 have:=hs.t.blk i (by rw[<- hs.t.len];exact hi) k a ha
 omega
theorem rows_sum (c:Cfg) (s:Cache) (h:CInv c s) (hs1:1≤c.sets) (hs2:c.sets≤64) (hw:c.ways≤16):∀ ks:List Int,ks.Nodup->(ks.flatMap s.rows).length≤1000000:=fun ks hn=>by
 have hz:∀ k,¬ (0≤k/\k < 64)->s.rows k=[]:=fun k hk=>by
  cases hq:s.rows k with
  | nil=>rfl
  | cons x xs =>
   have:=(h.own k x (by rw[hq];exact List.mem_cons_self)).2
   have hm:0≤imod x c.sets/\imod x c.sets < c.sets:=by
    unfold imod
    rw[if_neg (by omega)]
    have h1:=Int.tmod_lt_of_pos x (show 0 < c.sets by omega)
    have h2 : -c.sets < x.tmod c.sets:=by
     have h3:=Int.tmod_lt_of_pos (-x) (show 0 < c.sets by omega)
     rw[Int.neg_tmod] at h3;omega
    split <;> omega
   omega
 have hle:∀ k,(s.rows k).length≤16:=fun k=>by have:=h.short k;omega
 have key:∀ ks:List Int,(ks.flatMap s.rows).length≤16 * (ks.filter fun k=>decide (0≤k/\k < 64)).length:=by
  intro ks
  induction ks with
  | nil=>simp
  | cons k ks ih =>
   rw[List.flatMap_cons,List.length_append,List.filter_cons]
   by_cases q:0≤k/\k < 64
   ·rw[if_pos (by simpa using q),List.length_cons]
    have:=hle k;omega
   ·rw[if_neg (by simpa using q),hz k q]
    simpa using ih
 have hl:(ks.filter fun k=>decide (0≤k/\k < 64)).length≤64:=by
  have hn2:((ks.filter fun k=>decide (0≤k/\k < 64)).map Int.toNat).Nodup:=by
   have h1:=hn.filter (fun k=>decide (0≤k/\k < 64))
   refine List.pairwise_map.2 (List.Pairwise.imp_of_mem (fun {a b} ha hb hne e=>hne ?_) h1)
   have h2:=(List.mem_filter.1 ha).2
   have h3:=(List.mem_filter.1 hb).2
   simp only[decide_eq_true_eq] at h2 h3
   omega
  have:=nodup_le 64 _ hn2 (fun x hx=>by
   obtain⟨y,hy,rfl⟩:=List.mem_map.1 hx
   have h2:=(List.mem_filter.1 hy).2
   simp only[decide_eq_true_eq] at h2
   omega)
  simpa using this
 have:=key ks
 omega
theorem places_len {c:Cfg} {s:S.World} (hs:WOk c s) (hc:c.check=0) {i:Nat} (hi:i < s.nodes.length):∀ ks:List Int,ks.Nodup->(ks.flatMap (s.nodes.getD i (S.Node.new i)).lines.rows).length≤1000000:=by
 obtain⟨q1,q2,q3,q4,-⟩:=check_ok hc
 exact rows_sum c _ (hs.node _ (getD_mem _ hi)).cac q1 q2 q4
structure ShL (s:S.World) (q:Nat) (Ah Af:Option Addr) (ch cf r i:Nat) (Ap:Option Addr) (cp:Nat) (ps:List PlaceR) (w:Go.World):Prop where
 blk:w.heap[q]?=some (.cells #[.int .i64 s.steps,.int .i64 s.ticks,.slice Ap i cp,.slice Ah s.home.mem.length ch,.slice Af s.way.length cf] 41 (0,0))
 own:OwnE placeE (.slice Ap i cp) ps w
 len:ps.length=i
 ok:PlacesOk s.nodes ps r w
 hom:OwnE bunE (.slice Ah s.home.mem.length ch) s.home.mem w
 fl:OwnE letE (.slice Af s.way.length cf) s.way w
 res:w.heap[r]?=some (.cells #[.int .i64 0,.int .i64 0,.slice none 0 0,.slice none 0 0,.slice none 0 0] 41 (0,0))
 sep:∀ x∈foot (.slice Ap i cp),r < x/\x≠q/\x∉foot (.slice Ah s.home.mem.length ch)/\x∉foot (.slice Af s.way.length cf)/\∀ j:Nat,j < ps.length->x∉foot (ps.getD j placeE.d).lines/\x∉foot (ps.getD j placeE.d).acts
 rq:r < q
 f1:∀ x∈foot (.slice Ah s.home.mem.length ch),x≠q/\x≠r
 f2:∀ x∈foot (.slice Af s.way.length cf),x≠q/\x≠r/\r < x
 f3:∀ j:Nat,j < ps.length->(∀ x∈foot (ps.getD j placeE.d).lines,x≠q/\x≠r)/\∀ x∈foot (ps.getD j placeE.d).acts,x≠q/\x≠r
theorem ShL.push {s:S.World} {q:Nat} {Ah Af:Option Addr} {ch cf r i:Nat} {Ap A':Option Addr} {cp cp':Nat} {ps:List PlaceR} {w w1 w3:Go.World} (h:ShL s q Ah Af ch cf r i Ap cp ps w) (hi:i < s.nodes.length) (hr:r < w.heap.size) (hb:Below w.heap.size w w1) {pl:PlaceR} (hp1:pl.busy=(s.nodes.getD i (S.Node.new i)).cpu.busy) (hp2:pl.op=(s.nodes.getD i (S.Node.new i)).cpu.op) (hL:LinesV (s.nodes.getD i (S.Node.new i)) pl.lines w.heap.size w1) (hA:ActsV (s.nodes.getD i (S.Node.new i)) pl.acts w.heap.size w1) (o:Obj)
  (hO:OwnE placeE (.slice A' (i+1) cp') (ps ++ [pl]) w3) (hk:KS (fun x=>x∈foot (.slice Ap i cp)) (w1.alloc o) w3) (hf:∀ x∈foot (.slice A' (i+1) cp'),x∈foot (.slice Ap i cp)∨(w1.alloc o).heap.size≤x) :
  ShL s q Ah Af ch cf r (i+1) A' cp' (ps ++ [pl]) (w3.setCell ⟨q,2,none⟩ (.slice A' (i+1) cp'))/\Below r w (w3.setCell ⟨q,2,none⟩ (.slice A' (i+1) cp')):=by
 have hs1:=hb.size
 have hs2:(w1.alloc o).heap.size=w1.heap.size+1:=by simp only[World.size_alloc]
 have hq:=blk_lt h.blk
 have hb2:=below_alloc hb o
 have hkb:=KS.set (KS.refl (fun x=>x=q) w3) (.inl rfl) 2 (.slice A' (i+1) cp') (g:=q)
 have hlf:∀ x∈foot (.slice Ap i cp),x < w.heap.size:=h.own.lt
 have hKS:KS (fun x=>x∈foot (.slice Ap i cp)) w w3:=(KS.below _ hb2).trans hk (fun _ _ h=>h)
 have hF:KS (fun x=>x∈foot (.slice Ap i cp)∨x=q) w (w3.setCell ⟨q,2,none⟩ (.slice A' (i+1) cp')):=(hKS.mono (fun _ _ h=>.inl h)).trans hkb (fun _ _ h=>.inr h)
 have hF1:KS (fun x=>x∈foot (.slice Ap i cp)∨x=q) w1 (w3.setCell ⟨q,2,none⟩ (.slice A' (i+1) cp')):=((KS.below _ (below_alloc (Below.refl _ _) o)).trans (hk.mono (G:=fun x=>x∈foot (.slice Ap i cp)∨x=q) (fun _ _ h=>.inl h)) (fun _ _ h=>h)).trans hkb (fun _ _ h=>.inr h)
 have hqf:q∉foot (.slice Ap i cp):=fun e=>(h.sep q e).2.1 rfl
 have nl:∀ x∈foot pl.lines,¬ (x∈foot (.slice Ap i cp)∨x=q):=fun x hx e=>by
  have h1:=hL.2 x hx
  rcases e with e | e
  ·have:=hlf x e;omega
  ·omega
 have na:∀ x∈foot pl.acts,¬ (x∈foot (.slice Ap i cp)∨x=q):=fun x hx e=>by
  have h1:=hA.2 x hx
  rcases e with e | e
  ·have:=hlf x e;omega
  ·omega
 have hpl:PlaceOk (s.nodes.getD i (S.Node.new i)) pl r w1:=⟨hp1,hp2,⟨hL.1,fun x hx=>by have:=hL.2 x hx;omega⟩,⟨hA.1,fun x hx=>by have:=hA.2 x hx;omega⟩⟩
 have gl:∀ j:Nat,j < ps.length->(ps ++ [pl]).getD j placeE.d=ps.getD j placeE.d:=fun j hj=>by rw[List.getD_eq_getElem?_getD,List.getElem?_append_left hj,List.getD_eq_getElem?_getD]
 have gi:(ps ++ [pl]).getD ps.length placeE.d=pl:=by rw[List.getD_eq_getElem?_getD,List.getElem?_append_right (Nat.le_refl _)];simp
 have split:∀ j:Nat,j < (ps ++ [pl]).length->j < ps.length∨j=ps.length:=fun j hj=>by simp at hj;omega
 have hn':∀ x∈foot (.slice A' (i+1) cp'),x∈foot (.slice Ap i cp)∨w1.heap.size+1≤x:=fun x hx=>by rw[<- hs2];exact hf x hx
 refine⟨⟨?_,?_,by simp[h.len],⟨by simp;have:=h.len;omega,fun j hj=>?_⟩,?_,?_,hF.at_ h.res (fun e=>?_),fun x hx=>?_,h.rq,h.f1,h.f2,fun j hj=>?_⟩,?_⟩
 ·exact(blk_set (hKS.at_ h.blk hqf) 2 (.slice A' (i+1) cp')).trans (by simp)
 ·exact hO.ks hkb (fun x hx e=>by
   have e':x=q:=e
   rcases hn' x hx with k | k
   ·exact hqf (e' ▸ k)
   ·omega)
 ·rcases split j hj with k | k
  ·rw[gl j k]
   exact(h.ok.ok j k).ks hF (fun x hx e=>by
    rcases e with e | e
    ·exact((h.sep x e).2.2.2.2 j k).1 hx
    ·exact((h.f3 j k).1 x hx).1 e) (fun x hx e=>by
    rcases e with e | e
    ·exact((h.sep x e).2.2.2.2 j k).2 hx
    ·exact((h.f3 j k).2 x hx).1 e)
  ·rw[k,gi,h.len]
   exact hpl.ks hF1 nl na
 ·exact h.hom.ks hF (fun x hx e=>by
   rcases e with e | e
   ·exact(h.sep x e).2.2.1 hx
   ·exact(h.f1 x hx).1 e)
 ·exact h.fl.ks hF (fun x hx e=>by
   rcases e with e | e
   ·exact(h.sep x e).2.2.2.1 hx
   ·exact(h.f2 x hx).1 e)
 ·rcases e with e | e
  ·exact Nat.lt_irrefl _ (h.sep r e).1
  ·have:=h.rq;omega
 ·rcases hn' x hx with k | k
  ·obtain⟨s1,s2,s3,s4,s5⟩:=h.sep x k
   refine⟨s1,s2,s3,s4,fun j hj=>?_⟩
   rcases split j hj with j1 | j1
   ·rw[gl j j1];exact s5 j j1
   ·rw[j1,gi];exact⟨fun e=>nl x e (.inl k),fun e=>na x e (.inl k)⟩
  ·refine⟨by omega,by omega,fun e=>by have:=h.hom.lt x e;omega,fun e=>by have:=h.fl.lt x e;omega,fun j hj=>?_⟩
   rcases split j hj with j1 | j1
   ·rw[gl j j1]
    exact⟨fun e=>by have:=(h.ok.ok j j1).2.2.1.lt x e;omega,fun e=>by have:=(h.ok.ok j j1).2.2.2.lt x e;omega⟩
   ·rw[j1,gi];exact⟨fun e=>by have:=hL.lt x e;omega,fun e=>by have:=hA.lt x e;omega⟩
 ·rcases split j hj with j1 | j1
  ·rw[gl j j1];exact h.f3 j j1
  ·rw[j1,gi];exact⟨fun x hx=>⟨fun e=>nl x hx (.inr e),fun e=>by have:=hL.2 x hx;omega⟩,fun x hx=>⟨fun e=>na x hx (.inr e),fun e=>by have:=hA.2 x hx;omega⟩⟩
 ·have hrr:=h.rq
  refine⟨hF.1,hF.2.1,hF.2.2.1,hF.2.2.2.1,fun j hj=>hF.2.2.2.2 j (by omega) (fun e=>?_)⟩
  rcases e with e | e
  ·have:=(h.sep j e).1;omega
  ·omega
theorem zblkS {Y F:Go.World} (hl:Below (Y.alloc (.cells #[.int .i64 0,.int .i64 0,.slice none 0 0,.slice none 0 0,.slice none 0 0] 41)).heap.size (Y.alloc (.cells #[.int .i64 0,.int .i64 0,.slice none 0 0,.slice none 0 0,.slice none 0 0] 41)) F):F.heap[Y.heap.size]?=some (.cells #[.int .i64 0,.int .i64 0,.slice none 0 0,.slice none 0 0,.slice none 0 0] 41 (0,0)):=blk_below (blk_new Y _) hl
theorem zblkSD {Y F:Go.World} (hl:Below (Y.alloc (.cells #[.int .i64 0,.int .i64 0,.slice none 0 0,.slice none 0 0,.slice none 0 0] 41)).drew.heap.size (Y.alloc (.cells #[.int .i64 0,.int .i64 0,.slice none 0 0,.slice none 0 0,.slice none 0 0] 41)).drew F):F.heap[Y.heap.size]?=some (.cells #[.int .i64 0,.int .i64 0,.slice none 0 0,.slice none 0 0,.slice none 0 0] 41 (0,0)):=blk_below (blk_drew (blk_new Y _)) hl
theorem worldShot_new {c:Cfg} {s:S.World} {b:Nat} {F:Set_} {w:Go.World} (hW:WldAt c s b F w) (hs:WOk c s) (hc:c.check=0):Calls Tryz.prog 10 #[.pointer (some ⟨b,0,none⟩)] w fun e w'=>∃ Ap Ah Af np cp nh ch nf cf ps,e=.returned (shotV s Ap Ah Af np cp nh ch nf cf)/\ShotV s Ap Ah Af np cp nh ch nf cf ps w.heap.size w'/\Below w.heap.size w w'/\∀ x∈foot (.slice Af nf cf),w.heap.size < x:=by
 obtain⟨p,K,hK,-⟩:=hW
 have HW:=AS hK
 have HC:=AS (fun X (hb:Below w.heap.size w X)=>homeAll_any (hK.2.2.2.2.1.keep (F':=fun _=>True) (KS.below (fun _=>False) hb) (fun x _ hF=>⟨trivial,id⟩)))
 have NC:=AS (fun X (hb:Below w.heap.size w X)=>netList_any (hK.2.2.2.2.2.1.keep (F':=fun _=>True) (KS.below (fun _=>False) hb) (fun x _ hF=>⟨trivial,id⟩)))
 have hnl:=hK.2.2.2.2.2.2.1
 have hn64:=hK.2.2.2.2.2.2.2.1
 have hbl:=blk_lt hK.1
 have ND:=AS (fun i (hi:i < p.ns.length) X (hb:Below w.heap.size w X)=>nodePlace_any ((hK.2.2.2.2.2.2.2.2 i hi).keep (F':=fun _=>True) (KS.below (fun _=>False) hb) (fun x _ hF=>⟨trivial,id⟩)) (fun k hk=>places_act hs hc (by omega) k hk) (fun ks hn=>places_len hs hc (by omega) ks hn))
 have HNL:=AS hnl
 clear hK hs hc hnl
 have KEEP:=AS (show ∀ x,Below w.heap.size w x->(x.cell? ⟨b,9,none⟩=some (.int .i64 s.steps)/\x.cell? ⟨b,10,none⟩=some (.int .i64 s.ticks)/\x.cell? ⟨b,12,none⟩=some (.pointer (some ⟨p.h,0,none⟩))/\x.cell? ⟨b,13,none⟩=some (.pointer (some ⟨p.y,0,none⟩))) from fun x hx=>by
  have hb1:=blk_below HW.out.1 hx
  exact⟨cw hb1 9,cw hb1 10,cw hb1 12,cw hb1 13⟩)
 have ZF:=AS (show ∀ (x:Go.World) (g:Nat),x.heap[g]?=some (.cells #[.int .i64 0,.int .i64 0,.slice none 0 0,.slice none 0 0,.slice none 0 0] 41 (0,0))->(x.cell? ⟨g,0,none⟩=some (.int .i64 0)/\x.cell? ⟨g,1,none⟩=some (.int .i64 0)/\x.cell? ⟨g,2,none⟩=some (.slice none 0 0)/\x.cell? ⟨g,3,none⟩=some (.slice none 0 0)/\x.cell? ⟨g,4,none⟩=some (.slice none 0 0)/\x.frozen? ⟨g,0,none⟩=false/\x.frozen? ⟨g,1,none⟩=false/\x.frozen? ⟨g,2,none⟩=false/\x.frozen? ⟨g,3,none⟩=false/\x.frozen? ⟨g,4,none⟩=false) from fun x g h=>⟨cw h 0,cw h 1,cw h 2,cw h 3,cw h 4,blk_frozen h 0,blk_frozen h 1,blk_frozen h 2,blk_frozen h 3,blk_frozen h 4⟩)
 go_enter Tryz.func10,Tryz.ntmps10
 go_upto_region 1 with fail
 have BX:=AS (blk_new w (.cells #[.int .i64 0,.int .i64 0,.slice none 0 0,.slice none 0 0,.slice none 0 0] 41))
 have BE:=AS (below_alloc (Below.refl w.heap.size w) (.cells #[.int .i64 0,.int .i64 0,.slice none 0 0,.slice none 0 0,.slice none 0 0] 41))
 have SZ:=AS (sz_alloc w (.cells #[.int .i64 0,.int .i64 0,.slice none 0 0,.slice none 0 0,.slice none 0 0] 41))
 generalize w.alloc (.cells #[.int .i64 0,.int .i64 0,.slice none 0 0,.slice none 0 0,.slice none 0 0] 41)=W at BX BE SZ ⊢
 go_cut [3] (fun v3 wx=>(∃ q Ah ch Af cf,v3=.pointer (some ⟨q,0,none⟩)/\wx.heap[q]?=some (.cells #[.int .i64 s.steps,.int .i64 s.ticks,.slice none 0 0,.slice Ah s.home.mem.length ch,.slice Af s.way.length cf] 41 (0,0))/\OwnE bunE (.slice Ah s.home.mem.length ch) s.home.mem wx/\OwnE letE (.slice Af s.way.length cf) s.way wx/\(∀ x∈foot (.slice Ah s.home.mem.length ch),x≠q/\x≠w.heap.size)/\(∀ x∈foot (.slice Af s.way.length cf),x≠q/\x≠w.heap.size/\w.heap.size < x)/\w.heap.size < q/\wx.heap[w.heap.size]?=some (.cells #[.int .i64 0,.int .i64 0,.slice none 0 0,.slice none 0 0,.slice none 0 0] 41 (0,0))/\Below w.heap.size w wx))
 case first =>
  obtain⟨e0_,e1_,e2_,e3_⟩:=KEEP.out W BE.out
  go_region_held3 (fun x=>x.cell? ⟨b,9,none⟩=some (.int .i64 s.steps)/\x.cell? ⟨b,10,none⟩=some (.int .i64 s.ticks)/\x.cell? ⟨b,12,none⟩=some (.pointer (some ⟨p.h,0,none⟩))/\x.cell? ⟨b,13,none⟩=some (.pointer (some ⟨p.y,0,none⟩))) ((refine KEEP.out _ ?_;(repeat (first | (with_reducible refine Below.setCell ?_ ?_ _;rotate_left;(focus (have z0:=BE.out.size;have z1:=H1.out.size;simp only[sz_alloc,sz_drew] at z1 ⊢;omega))) | with_reducible apply below_alloc | with_reducible apply Below.drew | with_reducible exact BE.out | with_reducible refine bchain H2.out ?_ | with_reducible refine bchain H1.out ?_ | with_reducible exact Below.refl _ _)))) ((first | (go_at_call 36;refine(HC.out _ ?_).mono ?_;(focus ((repeat (first | (with_reducible refine Below.setCell ?_ ?_ _;rotate_left;(focus (have z0:=BE.out.size;have z1:=H1.out.size;simp only[sz_alloc,sz_drew] at z1 ⊢;omega))) | with_reducible apply below_alloc | with_reducible apply Below.drew | with_reducible exact BE.out | with_reducible refine bchain H2.out ?_ | with_reducible refine bchain H1.out ?_ | with_reducible exact Below.refl _ _))));rintro e w1 ⟨v,rfl,hO,hf,hb⟩;obtain⟨Ah,ch,rfl,-⟩:=hO.row;have H1:=AS hb;have L1:=AS (And.intro hO hf);clear hO hf hb;have hsz:=H1.out.size;(first | rw[sz_alloc] at hsz | rw[sz_drew,sz_alloc] at hsz);clear hsz;have QF:Aside0 (w1.heap[W.heap.size]?=some (.cells #[.int .i64 0,.int .i64 0,.slice none 0 0,.slice none 0 0,.slice none 0 0] 41 (0,0))):=AS (zblkSD (Y:=W) (F:=w1) H1.out);obtain⟨q10_,q11_,q12_,q13_,q14_,q15_,q16_,q17_,q18_,q19_⟩:=ZF.out _ _ QF.out) | (go_at_call 36;refine(HC.out _ ?_).mono ?_;(focus ((repeat (first | (with_reducible refine Below.setCell ?_ ?_ _;rotate_left;(focus (have z0:=BE.out.size;have z1:=H1.out.size;simp only[sz_alloc,sz_drew] at z1 ⊢;omega))) | with_reducible apply below_alloc | with_reducible apply Below.drew | with_reducible exact BE.out | with_reducible refine bchain H2.out ?_ | with_reducible refine bchain H1.out ?_ | with_reducible exact Below.refl _ _))));rintro e w1 ⟨v,rfl,hO,hf,hb⟩;obtain⟨Ah,ch,rfl,-⟩:=hO.row;have H1:=AS hb;have L1:=AS (And.intro hO hf);clear hO hf hb) | (go_at_call 37;refine(NC.out _ ?_).mono ?_;(focus ((repeat (first | (with_reducible refine Below.setCell ?_ ?_ _;rotate_left;(focus (have z0:=BE.out.size;have z1:=H1.out.size;simp only[sz_alloc,sz_drew] at z1 ⊢;omega))) | with_reducible apply below_alloc | with_reducible apply Below.drew | with_reducible exact BE.out | with_reducible refine bchain H2.out ?_ | with_reducible refine bchain H1.out ?_ | with_reducible exact Below.refl _ _))));rintro e w2 ⟨v,rfl,hO,hf,hb⟩;obtain⟨Af,cf,rfl,-⟩:=hO.row;have H2:=AS hb;have L2:=AS (And.intro hO hf);clear hO hf hb;have QF:Aside0 (w2.heap[W.heap.size]?=some (.cells #[.int .i64 0,.int .i64 0,.slice none 0 0,.slice none 0 0,.slice none 0 0] 41 (0,0))):=AS (blk_below QF.out H2.out);obtain⟨q20_,q21_,q22_,q23_,q24_,q25_,q26_,q27_,q28_,q29_⟩:=ZF.out _ _ QF.out) | (go_at_call 37;refine(NC.out _ ?_).mono ?_;(focus ((repeat (first | (with_reducible refine Below.setCell ?_ ?_ _;rotate_left;(focus (have z0:=BE.out.size;have z1:=H1.out.size;simp only[sz_alloc,sz_drew] at z1 ⊢;omega))) | with_reducible apply below_alloc | with_reducible apply Below.drew | with_reducible exact BE.out | with_reducible refine bchain H2.out ?_ | with_reducible refine bchain H1.out ?_ | with_reducible exact Below.refl _ _))));rintro e w2 ⟨v,rfl,hO,hf,hb⟩;obtain⟨Af,cf,rfl,-⟩:=hO.row;have H2:=AS hb;have L2:=AS (And.intro hO hf);clear hO hf hb;have hsz:=H2.out.size;(first | rw[sz_alloc] at hsz | rw[sz_drew,sz_alloc] at hsz);clear hsz;have QF:Aside0 (w2.heap[w1.heap.size]?=some (.cells #[.int .i64 0,.int .i64 0,.slice none 0 0,.slice none 0 0,.slice none 0 0] 41 (0,0))):=AS (zblkS (Y:=w1) (F:=w2) H2.out);obtain⟨q20_,q21_,q22_,q23_,q24_,q25_,q26_,q27_,q28_,q29_⟩:=ZF.out _ _ QF.out) | (go_at_call 37;refine(NC.out _ ?_).mono ?_;(focus ((repeat (first | (with_reducible refine Below.setCell ?_ ?_ _;rotate_left;(focus (have z0:=BE.out.size;have z1:=H1.out.size;simp only[sz_alloc,sz_drew] at z1 ⊢;omega))) | with_reducible apply below_alloc | with_reducible apply Below.drew | with_reducible exact BE.out | with_reducible refine bchain H2.out ?_ | with_reducible refine bchain H1.out ?_ | with_reducible exact Below.refl _ _))));rintro e w2 ⟨v,rfl,hO,hf,hb⟩;obtain⟨Af,cf,rfl,-⟩:=hO.row;have H2:=AS hb;have L2:=AS (And.intro hO hf);clear hO hf hb)))
  ·go_wp2_with fail
   go_meet
   have s0:=SZ.out
   have s1:=H1.out.size
   have s2:=H2.out.size
   simp only[sz_alloc,sz_drew,sz_set] at s1 s2
   have f1:∀ x∈foot (.slice Ah s.home.mem.length ch),x≠w2.heap.size/\w.heap.size < x:=fun x hx=>by
    have h1:=L1.out.1.lt x hx
    have h2:=L1.out.2 x hx
    (try simp only[sz_alloc,sz_drew,sz_set] at h1 h2)
    omega
   have f2:∀ x∈foot (.slice Af s.way.length cf),x≠w2.heap.size/\w.heap.size < x:=fun x hx=>by
    have h1:=L2.out.1.lt x hx
    have h2:=L2.out.2 x hx
    (try simp only[sz_alloc,sz_drew,sz_set] at h1 h2)
    omega
   refine⟨w2.heap.size,Ah,ch,Af,cf,rfl,?_,L1.out.1.ks (G:=fun y=>y=w2.heap.size) ?_ (fun x hx e=>(f1 x hx).1 e),L2.out.1.ks (G:=fun y=>y=w2.heap.size) ?_ (fun x hx e=>(f2 x hx).1 e),fun x hx=>⟨(f1 x hx).1,by have:=(f1 x hx).2;omega⟩,fun x hx=>⟨(f2 x hx).1,by have:=(f2 x hx).2;omega,(f2 x hx).2⟩,by omega,KS.at_ (F:=fun y=>y=w2.heap.size) (w:=w2) ?_ ?_ (fun e=>?_),?_⟩
   ·apply blk_as
    ·(repeat (with_reducible first | apply blk_set | apply blk_new | exact QF.out))
    ·simp
   ·(repeat (with_reducible first | refine KS.set1 ?_ _ _ | apply KS.alloc | apply KS.drew | exact KS.refl _ _ | refine KS.andBelow ?_ H2.out | refine KS.andBelow ?_ H1.out))
   ·(repeat (with_reducible first | refine KS.set1 ?_ _ _ | apply KS.alloc | apply KS.drew | exact KS.refl _ _ | refine KS.andBelow ?_ H2.out | refine KS.andBelow ?_ H1.out))
   ·(repeat (with_reducible first | refine KS.set1 ?_ _ _ | apply KS.alloc | apply KS.drew | exact KS.refl _ _ | refine KS.andBelow ?_ H2.out | refine KS.andBelow ?_ H1.out))
   ·(repeat (with_reducible first | exact BX.out | apply blk_alloc | apply blk_drew | refine blk_below ?_ H2.out | refine blk_below ?_ H1.out))
   ·have e':w.heap.size=w2.heap.size:=e
    omega
   ·(repeat (first | (with_reducible refine Below.setCell ?_ ?_ _;rotate_left;(focus (have z0:=BE.out.size;have z1:=H1.out.size;simp only[sz_alloc,sz_drew] at z1 ⊢;omega))) | with_reducible apply below_alloc | with_reducible apply Below.drew | with_reducible exact BE.out | with_reducible refine bchain H2.out ?_ | with_reducible refine bchain H1.out ?_ | with_reducible exact Below.refl _ _))
  ·go_wp2_with fail
   go_meet
   have s0:=SZ.out
   have s1:=H1.out.size
   have s2:=H2.out.size
   simp only[sz_alloc,sz_drew,sz_set] at s1 s2
   have f1:∀ x∈foot (.slice Ah s.home.mem.length ch),x≠w1.heap.size/\w.heap.size < x:=fun x hx=>by
    have h1:=L1.out.1.lt x hx
    have h2:=L1.out.2 x hx
    (try simp only[sz_alloc,sz_drew,sz_set] at h1 h2)
    omega
   have f2:∀ x∈foot (.slice Af s.way.length cf),x≠w1.heap.size/\w.heap.size < x:=fun x hx=>by
    have h1:=L2.out.1.lt x hx
    have h2:=L2.out.2 x hx
    (try simp only[sz_alloc,sz_drew,sz_set] at h1 h2)
    omega
   refine⟨w1.heap.size,Ah,ch,Af,cf,rfl,?_,L1.out.1.ks (G:=fun y=>y=w1.heap.size) ?_ (fun x hx e=>(f1 x hx).1 e),L2.out.1.ks (G:=fun y=>y=w1.heap.size) ?_ (fun x hx e=>(f2 x hx).1 e),fun x hx=>⟨(f1 x hx).1,by have:=(f1 x hx).2;omega⟩,fun x hx=>⟨(f2 x hx).1,by have:=(f2 x hx).2;omega,(f2 x hx).2⟩,by omega,KS.at_ (F:=fun y=>y=w1.heap.size) (w:=w2) ?_ ?_ (fun e=>?_),?_⟩
   ·apply blk_as
    ·(repeat (with_reducible first | apply blk_set | apply blk_new | exact QF.out))
    ·simp
   ·(repeat (with_reducible first | refine KS.set1 ?_ _ _ | apply KS.alloc | apply KS.drew | exact KS.refl _ _ | refine KS.andBelow ?_ H2.out | refine KS.andBelow ?_ H1.out))
   ·(repeat (with_reducible first | refine KS.set1 ?_ _ _ | apply KS.alloc | apply KS.drew | exact KS.refl _ _ | refine KS.andBelow ?_ H2.out | refine KS.andBelow ?_ H1.out))
   ·(repeat (with_reducible first | refine KS.set1 ?_ _ _ | apply KS.alloc | apply KS.drew | exact KS.refl _ _ | refine KS.andBelow ?_ H2.out | refine KS.andBelow ?_ H1.out))
   ·(repeat (with_reducible first | exact BX.out | apply blk_alloc | apply blk_drew | refine blk_below ?_ H2.out | refine blk_below ?_ H1.out))
   ·have e':w.heap.size=w1.heap.size:=e
    omega
   ·(repeat (first | (with_reducible refine Below.setCell ?_ ?_ _;rotate_left;(focus (have z0:=BE.out.size;have z1:=H1.out.size;simp only[sz_alloc,sz_drew] at z1 ⊢;omega))) | with_reducible apply below_alloc | with_reducible apply Below.drew | with_reducible exact BE.out | with_reducible refine bchain H2.out ?_ | with_reducible refine bchain H1.out ?_ | with_reducible exact Below.refl _ _))
  ·go_wp2_with fail
   go_meet
   have s0:=SZ.out
   have s1:=H1.out.size
   have s2:=H2.out.size
   simp only[sz_alloc,sz_drew,sz_set] at s1 s2
   have f1:∀ x∈foot (.slice Ah s.home.mem.length ch),x≠W.heap.size/\w.heap.size < x:=fun x hx=>by
    have h1:=L1.out.1.lt x hx
    have h2:=L1.out.2 x hx
    (try simp only[sz_alloc,sz_drew,sz_set] at h1 h2)
    omega
   have f2:∀ x∈foot (.slice Af s.way.length cf),x≠W.heap.size/\w.heap.size < x:=fun x hx=>by
    have h1:=L2.out.1.lt x hx
    have h2:=L2.out.2 x hx
    (try simp only[sz_alloc,sz_drew,sz_set] at h1 h2)
    omega
   refine⟨W.heap.size,Ah,ch,Af,cf,rfl,?_,L1.out.1.ks (G:=fun y=>y=W.heap.size) ?_ (fun x hx e=>(f1 x hx).1 e),L2.out.1.ks (G:=fun y=>y=W.heap.size) ?_ (fun x hx e=>(f2 x hx).1 e),fun x hx=>⟨(f1 x hx).1,by have:=(f1 x hx).2;omega⟩,fun x hx=>⟨(f2 x hx).1,by have:=(f2 x hx).2;omega,(f2 x hx).2⟩,by omega,KS.at_ (F:=fun y=>y=W.heap.size) (w:=w2) ?_ ?_ (fun e=>?_),?_⟩
   ·apply blk_as
    ·(repeat (with_reducible first | apply blk_set | apply blk_new | exact QF.out))
    ·simp
   ·(repeat (with_reducible first | refine KS.set1 ?_ _ _ | apply KS.alloc | apply KS.drew | exact KS.refl _ _ | refine KS.andBelow ?_ H2.out | refine KS.andBelow ?_ H1.out))
   ·(repeat (with_reducible first | refine KS.set1 ?_ _ _ | apply KS.alloc | apply KS.drew | exact KS.refl _ _ | refine KS.andBelow ?_ H2.out | refine KS.andBelow ?_ H1.out))
   ·(repeat (with_reducible first | refine KS.set1 ?_ _ _ | apply KS.alloc | apply KS.drew | exact KS.refl _ _ | refine KS.andBelow ?_ H2.out | refine KS.andBelow ?_ H1.out))
   ·(repeat (with_reducible first | exact BX.out | apply blk_alloc | apply blk_drew | refine blk_below ?_ H2.out | refine blk_below ?_ H1.out))
   ·have e':w.heap.size=W.heap.size:=e
    omega
   ·(repeat (first | (with_reducible refine Below.setCell ?_ ?_ _;rotate_left;(focus (have z0:=BE.out.size;have z1:=H1.out.size;simp only[sz_alloc,sz_drew] at z1 ⊢;omega))) | with_reducible apply below_alloc | with_reducible apply Below.drew | with_reducible exact BE.out | with_reducible refine bchain H2.out ?_ | with_reducible refine bchain H1.out ?_ | with_reducible exact Below.refl _ _))
 case rest =>
  obtain⟨q,Ah,ch,Af,cf,rfl,hQ,hO1,hO2,hf1,hf2,hq,hR,hbe⟩:=hcut
  have R0:=AS (show ∃ Ap cp ps,ShL s q Ah Af ch cf w.heap.size 0 Ap cp ps wc/\Below w.heap.size w wc from⟨none,0,[],⟨hQ,OwnE.nil _,rfl,⟨Nat.zero_le _,fun i hi=>absurd hi (by simp)⟩,hO1,hO2,hR,fun x hx=>by simp[foot_nil] at hx,hq,fun x hx=>⟨(hf1 x hx).1,(hf1 x hx).2⟩,fun x hx=>⟨(hf2 x hx).1,(hf2 x hx).2⟩,fun j hj=>absurd hj (by simp)⟩,hbe⟩)
  have e11:=cw (blk_below HW.out.1 hbe) 11 (v:=.slice p.A p.ns.length p.cp)
  clear hQ hO1 hO2 hf1 hf2 hR hbe
  go_wp2_with fail
  go_loopw [5,30] (fun v5 v30 wr=>∃ i:Nat,v30=.int .i64 i/\i≤p.ns.length/\Aside0 (∃ Ap cp ps,ShL s q Ah Af ch cf w.heap.size i Ap cp ps wr/\Below w.heap.size w wr)) (fun _ v30 _=>65 - (intOf v30).toNat)
  case atStart=>exact⟨0,rfl,by omega,R0⟩
  case round =>
   obtain⟨i,rfl,hi,R⟩:=hrel
   obtain⟨Ap,cp,ps,r1,r2⟩:=R.out
   by_cases hc:i < p.ns.length
   ·have q0:(0:Int)≤(i:Int):=by omega
    have q1:(i:Int) < (p.ns.length:Int):=by omega
    obtain⟨gA,hgA,hgi⟩:=HW.out.ptr hc
    have hgl:gA < w.heap.size:=World.block_lt_of_cell? w _ hgi
    have hgi':wr.cell? ⟨gA,i,none⟩=some (.pointer (some ⟨p.ns.getD i 0,0,none⟩)):=((bcell r2).1 gA i hgl).trans hgi
    have PC:=AS (fun X hb=>ND.out i hc X hb)
    have RX:=AS (And.intro r1 r2)
    have HII:=AS (show i < s.nodes.length by have:=HNL.out;omega)
    have k11:=cw r1.blk 2 (v:=.slice Ap i cp)
    have k11':wr.drew.cell? ⟨q,2,none⟩=some (.slice Ap i cp):=k11
    have hlq:=blk_lt r1.blk
    generalize hni:p.ns.getD i 0=ni at *
    generalize hA:p.A=PA at *
    subst hgA
    generalize hnd:s.nodes.getD i (S.Node.new i)=nd at PC
    have HND:=AS hnd
    clear r1 r2 hni hA hi hnd
    go_upto_region 5 with fail
    go_region_law ((first | (go_simp;go_at_call 38;refine(PC.out _ (RX.out.2.trans (Below.mono (B:=wr.heap.size) (Below.drew (Below.refl _ _)) RX.out.2.size))).mono ?_;rintro e w1 ⟨vl,va,rfl,hL,hA,hb⟩;have hLc:=hL;have hAc:=hA;obtain⟨⟨ks1,-,-,hLo⟩,-⟩:=hLc;obtain⟨⟨ks2,-,-,hAo⟩,-⟩:=hAc;obtain⟨L1,lc,hvl,-⟩:=hLo.row;obtain⟨L2,ac,hva,-⟩:=hAo.row;obtain⟨ln,hln⟩:∃ n,vl=.slice L1 n lc:=⟨_,hvl⟩;obtain⟨an,han⟩:∃ n,va=.slice L2 n ac:=⟨_,hva⟩;clear hLo hAo hvl hva;subst hln han;have BR1:=AS (show Below wr.heap.size wr w1 from(Below.drew (Below.refl _ _)).trans hb);have HL:=AS (And.intro hL hA);clear hL hA hb;simp only[placeV];have k12:w1.cell? ⟨q,2,none⟩=some (.slice Ap i cp):=((bcell BR1.out).1 q 2 hlq).trans k11;have k13:(w1.alloc (.cells #[.slice L1 ln lc,.bool nd.cpu.busy,.int .i64 nd.cpu.op.block,.bool nd.cpu.op.write,.int .i64 nd.cpu.op.value,.slice L2 an ac] 53)).cell? ⟨q,2,none⟩=some (.slice Ap i cp):=((bcell (below_alloc BR1.out (.cells #[.slice L1 ln lc,.bool nd.cpu.busy,.int .i64 nd.cpu.op.block,.bool nd.cpu.op.write,.int .i64 nd.cpu.op.value,.slice L2 an ac] 53))).1 q 2 hlq).trans k11;have OA:=AS (show OwnE placeE (.slice Ap i cp) ps (w1.alloc (.cells #[.slice L1 ln lc,.bool nd.cpu.busy,.int .i64 nd.cpu.op.block,.bool nd.cpu.op.write,.int .i64 nd.cpu.op.value,.slice L2 an ac] 53)) from RX.out.1.own.ks (KS.below (fun _=>False) (below_alloc BR1.out _)) (fun _ _=>id));have RA:=AS (show RowE placeE (w1.alloc (.cells #[.slice L1 ln lc,.bool nd.cpu.busy,.int .i64 nd.cpu.op.block,.bool nd.cpu.op.write,.int .i64 nd.cpu.op.value,.slice L2 an ac] 53)) (some ⟨w1.heap.size,0,none⟩) [(⟨.slice L1 ln lc,nd.cpu.busy,nd.cpu.op,.slice L2 an ac,rfl,rfl⟩:PlaceR)] from rowE_one (E:=placeE) (x:=(⟨.slice L1 ln lc,nd.cpu.busy,nd.cpu.op,.slice L2 an ac,rfl,rfl⟩:PlaceR)) (blk_new w1 (.cells #[.slice L1 ln lc,.bool nd.cpu.busy,.int .i64 nd.cpu.op.block,.bool nd.cpu.op.write,.int .i64 nd.cpu.op.value,.slice L2 an ac] 53)))) | (refine step_appE (E:=placeE) (xs:=ps) (ys:=[(⟨.slice L1 ln lc,nd.cpu.busy,nd.cpu.op,.slice L2 an ac,rfl,rfl⟩:PlaceR)]) (by kernel_rfl) _ _ rfl rfl rfl rfl (by exact OA.out) (by exact RA.out) (by have:=RX.out.1.len;show _ * 80≤_;simp;omega) ?_;intro v1 w3 hO hK hf;have hk3:KS (fun x=>x∈foot (.slice Ap i cp)) (w1.alloc (.cells #[.slice L1 ln lc,.bool nd.cpu.busy,.int .i64 nd.cpu.op.block,.bool nd.cpu.op.write,.int .i64 nd.cpu.op.value,.slice L2 an ac] 53)) w3:=KS.keeps hK;obtain⟨A3,n3,k3,rfl⟩:∃ A n c,v1=.slice A n c:=(by obtain⟨A,c,h,_⟩:=OwnE.row hO;exact⟨_,_,_,h⟩);have hn3:n3=i+1:=(by obtain⟨A,c,h,_⟩:=OwnE.row hO;injection h with h1 h2 h3;have:=RX.out.1.len;simp at h2;omega);subst hn3;have Y1:=AS (hk3.at_ (blk_alloc (blk_below RX.out.1.blk BR1.out) (.cells #[.slice L1 ln lc,.bool nd.cpu.busy,.int .i64 nd.cpu.op.block,.bool nd.cpu.op.write,.int .i64 nd.cpu.op.value,.slice L2 an ac] 53)) (fun e=>(RX.out.1.sep q e).2.1 rfl));have y2:w3.frozen? ⟨q,2,none⟩=false:=blk_frozen Y1.out 2;have y3:w3.cell? ⟨q,2,none⟩=some (.slice Ap i cp):=cw Y1.out 2;have FI:=AS (show _/\Below w.heap.size w (w3.setCell ⟨q,2,none⟩ (.slice A3 (i+1) k3)) from(by have h5:=RX.out.1.push (pl:=(⟨.slice L1 ln lc,nd.cpu.busy,nd.cpu.op,.slice L2 an ac,rfl,rfl⟩:PlaceR)) HII.out (blk_lt RX.out.1.res) BR1.out (by rw[HND.out]) (by rw[HND.out]) (by rw[HND.out];exact HL.out.1) (by rw[HND.out];exact HL.out.2) (.cells #[.slice L1 ln lc,.bool nd.cpu.busy,.int .i64 nd.cpu.op.block,.bool nd.cpu.op.write,.int .i64 nd.cpu.op.value,.slice L2 an ac] 53) hO hk3 (fun x hx=>by rcases hf with e | e;exact .inl (by rw[e] at hx;exact hx);exact .inr (by rw[e] at hx;simp only[List.mem_singleton] at hx;omega));exact⟨h5.1,RX.out.2.trans h5.2⟩));clear hO hK hf hk3)))
    all_goals
     go_wp2
     go_roundw
     case rel=>exact⟨i+1,by go_num,by omega,⟨⟨_,_,_,FI.out⟩⟩⟩
     case measure=>simp[intOf];omega
   ·have hin:i=p.ns.length:=by omega
    subst hin
    have RX:=AS (And.intro r1 r2)
    have e0_:=cw r1.blk 0 (v:=.int .i64 s.steps)
    have e1_:=cw r1.blk 1 (v:=.int .i64 s.ticks)
    have e2_:=cw r1.blk 2 (v:=.slice Ap p.ns.length cp)
    have e3_:=cw r1.blk 3 (v:=.slice Ah s.home.mem.length ch)
    have e4_:=cw r1.blk 4 (v:=.slice Af s.way.length cf)
    have f0_:=cw r1.res 0 (v:=.int .i64 0)
    have f1_:=cw r1.res 1 (v:=.int .i64 0)
    have f2_:=cw r1.res 2 (v:=.slice none 0 0)
    have f3_:=cw r1.res 3 (v:=.slice none 0 0)
    have f4_:=cw r1.res 4 (v:=.slice none 0 0)
    have z0_:=blk_frozen r1.res 0
    have z1_:=blk_frozen r1.res 1
    have z2_:=blk_frozen r1.res 2
    have z3_:=blk_frozen r1.res 3
    have z4_:=blk_frozen r1.res 4
    clear r1 r2
    go_wp2
    have KK5:=AS (show KS (fun y=>y=w.heap.size) wr ((((((wr).setCell ⟨w.heap.size,0,none⟩ (.int .i64 s.steps)).setCell ⟨w.heap.size,1,none⟩ (.int .i64 s.ticks)).setCell ⟨w.heap.size,2,none⟩ (.slice Ap p.ns.length cp)).setCell ⟨w.heap.size,3,none⟩ (.slice Ah s.home.mem.length ch)).setCell ⟨w.heap.size,4,none⟩ (.slice Af s.way.length cf)) from(by repeat (with_reducible first | refine KS.set1 ?_ _ _ | exact KS.refl _ _)))
    have R5:=AS (show((((((wr).setCell ⟨w.heap.size,0,none⟩ (.int .i64 s.steps)).setCell ⟨w.heap.size,1,none⟩ (.int .i64 s.ticks)).setCell ⟨w.heap.size,2,none⟩ (.slice Ap p.ns.length cp)).setCell ⟨w.heap.size,3,none⟩ (.slice Ah s.home.mem.length ch)).setCell ⟨w.heap.size,4,none⟩ (.slice Af s.way.length cf)).heap[w.heap.size]?=some (.cells #[.int .i64 s.steps,.int .i64 s.ticks,.slice Ap p.ns.length cp,.slice Ah s.home.mem.length ch,.slice Af s.way.length cf] 41 (0,0)) from(by
     have q0:=blk_set RX.out.1.res 0 (.int .i64 s.steps)
     have q1:=blk_set q0 1 (.int .i64 s.ticks)
     have q2:=blk_set q1 2 (.slice Ap p.ns.length cp)
     have q3:=blk_set q2 3 (.slice Ah s.home.mem.length ch)
     have q4:=blk_set q3 4 (.slice Af s.way.length cf)
     exact blk_as q4 (by simp)))
    generalize (((((wr).setCell ⟨w.heap.size,0,none⟩ (.int .i64 s.steps)).setCell ⟨w.heap.size,1,none⟩ (.int .i64 s.ticks)).setCell ⟨w.heap.size,2,none⟩ (.slice Ap p.ns.length cp)).setCell ⟨w.heap.size,3,none⟩ (.slice Ah s.home.mem.length ch)).setCell ⟨w.heap.size,4,none⟩ (.slice Af s.way.length cf)=W5 at R5 KK5 ⊢
    obtain⟨g0_,g1_,g2_,g3_,g4_⟩:=(show W5.cell? ⟨w.heap.size,0,none⟩=some (.int .i64 s.steps)/\W5.cell? ⟨w.heap.size,1,none⟩=some (.int .i64 s.ticks)/\W5.cell? ⟨w.heap.size,2,none⟩=some (.slice Ap p.ns.length cp)/\W5.cell? ⟨w.heap.size,3,none⟩=some (.slice Ah s.home.mem.length ch)/\W5.cell? ⟨w.heap.size,4,none⟩=some (.slice Af s.way.length cf) from⟨cw R5.out 0,cw R5.out 1,cw R5.out 2,cw R5.out 3,cw R5.out 4⟩)
    refine bodyPost_ret (v:=shotV s Ap Ah Af p.ns.length cp s.home.mem.length ch s.way.length cf) (by simp[results,Tryz.results10,go_sem,shotV,g0_,g1_,g2_,g3_,g4_]) rfl ?_
    obtain⟨r1,r2⟩:=RX.out
    have hk:=KK5.out
    refine⟨Ap,Ah,Af,p.ns.length,cp,_,ch,_,cf,ps,rfl,⟨r1.own.ks hk (fun x hx e=>by have:=(r1.sep x hx).1;have e':x=w.heap.size:=e;omega),r1.len.symm,r1.len.trans HNL.out,⟨r1.ok.len,fun j hj=>(r1.ok.ok j hj).ks hk (fun x hx e=>((r1.f3 j hj).1 x hx).2 e) (fun x hx e=>((r1.f3 j hj).2 x hx).2 e)⟩,r1.hom.ks hk (fun x hx e=>(r1.f1 x hx).2 e),r1.fl.ks hk (fun x hx e=>(r1.f2 x hx).2.1 e),rfl,rfl⟩,r2.trans (hk.toBelow (fun y hy=>by have hy':y=w.heap.size:=hy;omega) r2.size),fun x hx=>(r1.f2 x hx).2.2⟩
theorem worldShot_any {c:Cfg} {s:S.World} {b:Nat} {F:Set_} {w:Go.World} (hW:WldAt c s b F w) (hs:WOk c s) (hc:c.check=0):Calls Tryz.prog 10 #[.pointer (some ⟨b,0,none⟩)] w fun e w'=>∃ Ap Ah Af np cp nh ch nf cf ps,e=.returned (shotV s Ap Ah Af np cp nh ch nf cf)/\ShotV s Ap Ah Af np cp nh ch nf cf ps w.heap.size w'/\Below w.heap.size w w' :=
 (worldShot_new hW hs hc).mono (by rintro e w' ⟨Ap,Ah,Af,np,cp,nh,ch,nf,cf,ps,h1,h2,h3,-⟩;exact⟨Ap,Ah,Af,np,cp,nh,ch,nf,cf,ps,h1,h2,h3⟩)
end Go.Proofs.YtiebppkhaiofeaaGreat.K
