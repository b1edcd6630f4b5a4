/- Part of the proof of TopPolicies: what functions of the program do. -/
import Derived.Test.YtiebppkhaiofeaaGreatP22
import Derived.Test.YtiebppkhaiofeaaGreatP00
set_option maxHeartbeats 4000000
set_option maxRecDepth 100000
set_option linter.unusedVariables false
set_option linter.unusedSimpArgs false
open Go.IntKind renaming i64→I
open Go.Value renaming slice→J, int→V, bool→aA, pointer→bA
open Option renaming some→M, none→U
open Go.Obj renaming cells→O
open Go renaming Calls→bB, World→cA, bodyPost_ret→yA
open List renaming getD_eq_getElem?_getD→cB, mem_singleton→tA, mem_cons_self→wA, length_append→xA
open Go.Proofs.Tryz renaming prog→dA
open Go.Proofs.YtiebppkhaiofeaaGreatW.PrintWords renaming below_alloc→eA, blk_lt→eB, blk_drew→fB, blk_frozen→jA, blk_below→kA, blk_alloc→lA, blk_set→mA, blk_new→nA
open Go.RowKit.Below renaming refl→fA, drew→iA, setCell→oA
open Go.Proofs.YtiebppkhaiofeaaGreat.K renaming sz_alloc→gB, sz_drew→iB
open Nat renaming le_refl→pA
open Go.Proofs.YtiebppkhaiofeaaGreat.K.KS renaming below→pB, refl→qB, drew→sB, set1→tB
open And renaming intro→qA
open Go.World renaming size_alloc→rA
namespace Go.Proofs.YtiebppkhaiofeaaGreat.K
open Go.RowKit Go.Proofs.YtiebppkhaiofeaaGreatW.PrintWords Go.Proofs.YtiebppkhaiofeaaGreat.S
attribute [local go_sem] World.cell?_alloc_some
open Go.ChangeMaps Go.MapKept
def PlaceOk (n:S.Node) (p:PlaceR) (B:Nat) (w:cA):Prop:=p.busy=n.cpu.busy/\p.op=n.cpu.op/\LinesV n p.lines B w/\ActsV n p.acts B w
theorem PlaceOk.ks {n:S.Node} {p:PlaceR} {B:Nat} {G:Set_} {w w':cA} (h:PlaceOk n p B w) (hk:KS G w w') (h1:∀ x∈foot p.lines,¬ G x) (h2:∀ x∈foot p.acts,¬ G x):PlaceOk n p B w' :=
 ⟨h.1,h.2.1,⟨h.2.2.1.1.imp fun ks k=>⟨k.1,k.2.1,k.2.2.ks hk h1⟩,h.2.2.1.2⟩,⟨h.2.2.2.1.imp fun ks k=>⟨k.1,k.2.1,k.2.2.ks hk h2⟩,h.2.2.2.2⟩⟩
structure PlacesOk (ns:List S.Node) (ps:List PlaceR) (B:Nat) (w:cA):Prop where
 len:ps.length≤ns.length
 ok:∀ i:Nat,i < ps.length->PlaceOk (ns.getD i (S.Node.new i)) (ps.getD i placeE.d) B w
def ShotV (s:S.World) (Ap Ah Af:Option Addr) (np cp nh ch nf cf:Nat) (ps:List PlaceR) (B:Nat) (w:cA):Prop :=
 OwnE placeE (J Ap np cp) ps w/\np=ps.length/\ps.length=s.nodes.length/\PlacesOk s.nodes ps B w/\OwnE bunE (J Ah nh ch) s.home.mem w/\OwnE letE (J Af nf cf) s.way w/\nh=s.home.mem.length/\nf=s.way.length
def shotV (s:S.World) (Ap Ah Af:Option Addr) (np cp nh ch nf cf:Nat):Value:=.agg #[V I s.steps,V I s.ticks,J Ap np cp,J Ah nh ch,J Af nf cf]
theorem places_act {c:Cfg} {s:S.World} (hs:WOk c s) (hc:c.check=0) {i:Nat} (hi:i < s.nodes.length):∀ k,((s.nodes.getD i (S.Node.new i)).know.act k).isSome->0≤k/\k < 64:=fun k hk=>by
 obtain⟨-,-,-,-,-,-,-,-,-,-,-,-,hn1,hn2,hb1,hb2,-,-⟩:=check_ok hc
 obtain⟨a,ha⟩:=Option.isSome_iff_exists.1 hk
 have:=hs.t.blk i (by rw[<- hs.t.len];exact hi) k a ha
 omega
theorem rows_sum (c:Cfg) (s:Cache) (h:CInv c s) (hs1:1≤c.sets) (hs2:c.sets≤64) (hw:c.ways≤16):∀ ks:List Int,ks.Nodup->(ks.flatMap s.rows).length≤1000000:=fun ks hn=>by
 have hz:∀ k,¬ (0≤k/\k < 64)->s.rows k=[]:=fun k hk=>by
  cases hq:s.rows k with
  | nil=>rfl
  | cons x xs =>
   have:=(h.own k x (by rw[hq];exact wA)).2
   have hm:0≤imod x c.sets/\imod x c.sets < c.sets:=by
    unfold imod
    rw[if_neg vB]
    have h1:=Int.tmod_lt_of_pos x (show 0 < c.sets by omega)
    have h2 : -c.sets < x.tmod c.sets:=by
     have h3:=Int.tmod_lt_of_pos (-x) (show 0 < c.sets by omega)
     rw[Int.neg_tmod] at h3;omega
    split <;> omega
   omega
 have hle:∀ k,(s.rows k).length≤16:=fun k=>by have:=h.short k;omega
 have key:∀ ks:List Int,(ks.flatMap s.rows).length≤16 * (ks.filter fun k=>decide (0≤k/\k < 64)).length:=by
  intro ks
  induction ks with
  | nil=>simp
  | cons k ks ih =>
   rw[List.flatMap_cons,xA,List.filter_cons]
   by_cases q:0≤k/\k < 64
   ·rw[if_pos (by simpa using q),List.length_cons]
    have:=hle k;omega
   ·rw[if_neg (by simpa using q),hz k q]
    simpa using ih
 have hl:(ks.filter fun k=>decide (0≤k/\k < 64)).length≤64:=by
  have hn2:((ks.filter fun k=>decide (0≤k/\k < 64)).map Int.toNat).Nodup:=by
   have h1:=hn.filter (fun k=>decide (0≤k/\k < 64))
   refine List.pairwise_map.2 (List.Pairwise.imp_of_mem (fun {a b} ha hb hne e=>hne ?_) h1)
   have h2:=(List.mem_filter.1 ha).2
   have h3:=(List.mem_filter.1 hb).2
   simp only[decide_eq_true_eq] at h2 h3
   omega
  have:=nodup_le 64 _ hn2 (fun x hx=>by
   obtain⟨y,hy,rfl⟩:=List.mem_map.1 hx
   have h2:=(List.mem_filter.1 hy).2
   simp only[decide_eq_true_eq] at h2
   omega)
  simpa using this
 have:=key ks
 omega
theorem places_len {c:Cfg} {s:S.World} (hs:WOk c s) (hc:c.check=0) {i:Nat} (hi:i < s.nodes.length):∀ ks:List Int,ks.Nodup->(ks.flatMap (s.nodes.getD i (S.Node.new i)).lines.rows).length≤1000000:=by
 obtain⟨q1,q2,q3,q4,-⟩:=check_ok hc
 exact rows_sum c _ (hs.node _ (getD_mem _ hi)).cac q1 q2 q4
structure ShL (s:S.World) (q:Nat) (Ah Af:Option Addr) (ch cf r i:Nat) (Ap:Option Addr) (cp:Nat) (ps:List PlaceR) (w:cA):Prop where
 blk:w.heap[q]?=M (O #[V I s.steps,V I s.ticks,J Ap i cp,J Ah s.home.mem.length ch,J Af s.way.length cf] 41 (0,0))
 own:OwnE placeE (J Ap i cp) ps w
 len:ps.length=i
 ok:PlacesOk s.nodes ps r w
 hom:OwnE bunE (J Ah s.home.mem.length ch) s.home.mem w
 fl:OwnE letE (J Af s.way.length cf) s.way w
 res:w.heap[r]?=M (O #[V I 0,V I 0,J U 0 0,J U 0 0,J U 0 0] 41 (0,0))
 sep:∀ x∈foot (J Ap i cp),r < x/\x≠q/\x∉foot (J Ah s.home.mem.length ch)/\x∉foot (J Af s.way.length cf)/\∀ j:Nat,j < ps.length->x∉foot (ps.getD j placeE.d).lines/\x∉foot (ps.getD j placeE.d).acts
 rq:r < q
 f1:∀ x∈foot (J Ah s.home.mem.length ch),x≠q/\x≠r
 f2:∀ x∈foot (J Af s.way.length cf),x≠q/\x≠r/\r < x
 f3:∀ j:Nat,j < ps.length->(∀ x∈foot (ps.getD j placeE.d).lines,x≠q/\x≠r)/\∀ x∈foot (ps.getD j placeE.d).acts,x≠q/\x≠r
theorem ShL.push {s:S.World} {q:Nat} {Ah Af:Option Addr} {ch cf r i:Nat} {Ap A':Option Addr} {cp cp':Nat} {ps:List PlaceR} {w w1 w3:cA} (h:ShL s q Ah Af ch cf r i Ap cp ps w) (hi:i < s.nodes.length) (hr:r < w.heap.size) (hb:Below w.heap.size w w1) {pl:PlaceR} (hp1:pl.busy=(s.nodes.getD i (S.Node.new i)).cpu.busy) (hp2:pl.op=(s.nodes.getD i (S.Node.new i)).cpu.op) (hL:LinesV (s.nodes.getD i (S.Node.new i)) pl.lines w.heap.size w1) (hA:ActsV (s.nodes.getD i (S.Node.new i)) pl.acts w.heap.size w1) (o:Obj)
  (hO:OwnE placeE (J A' (i+1) cp') (ps ++ [pl]) w3) (hk:KS (fun x=>x∈foot (J Ap i cp)) (w1.alloc o) w3) (hf:∀ x∈foot (J A' (i+1) cp'),x∈foot (J Ap i cp)∨(w1.alloc o).heap.size≤x) :
  ShL s q Ah Af ch cf r (i+1) A' cp' (ps ++ [pl]) (w3.setCell ⟨q,2,U⟩ (J A' (i+1) cp'))/\Below r w (w3.setCell ⟨q,2,U⟩ (J A' (i+1) cp')):=by
 have hs1:=hb.size
 have hs2:(w1.alloc o).heap.size=w1.heap.size+1:=by simp only[rA]
 have hq:=eB h.blk
 have hb2:=eA hb o
 have hkb:=KS.set (qB (fun x=>x=q) w3) (.inl rfl) 2 (J A' (i+1) cp') (g:=q)
 have hlf:∀ x∈foot (J Ap i cp),x < w.heap.size:=h.own.lt
 have hKS:KS (fun x=>x∈foot (J Ap i cp)) w w3:=(pB _ hb2).trans hk (fun _ _ h=>h)
 have hF:KS (fun x=>x∈foot (J Ap i cp)∨x=q) w (w3.setCell ⟨q,2,U⟩ (J A' (i+1) cp')):=(hKS.mono (fun _ _ h=>.inl h)).trans hkb (fun _ _ h=>.inr h)
 have hF1:KS (fun x=>x∈foot (J Ap i cp)∨x=q) w1 (w3.setCell ⟨q,2,U⟩ (J A' (i+1) cp')):=((pB _ (eA (fA _ _) o)).trans (hk.mono (G:=fun x=>x∈foot (J Ap i cp)∨x=q) (fun _ _ h=>.inl h)) (fun _ _ h=>h)).trans hkb (fun _ _ h=>.inr h)
 have hqf:q∉foot (J Ap i cp):=fun e=>(h.sep q e).2.1 rfl
 have nl:∀ x∈foot pl.lines,¬ (x∈foot (J Ap i cp)∨x=q):=fun x hx e=>by
  have h1:=hL.2 x hx
  rcases e with e | e
  ·have:=hlf x e;omega
  ·omega
 have na:∀ x∈foot pl.acts,¬ (x∈foot (J Ap i cp)∨x=q):=fun x hx e=>by
  have h1:=hA.2 x hx
  rcases e with e | e
  ·have:=hlf x e;omega
  ·omega
 have hpl:PlaceOk (s.nodes.getD i (S.Node.new i)) pl r w1:=⟨hp1,hp2,⟨hL.1,fun x hx=>by have:=hL.2 x hx;omega⟩,⟨hA.1,fun x hx=>by have:=hA.2 x hx;omega⟩⟩
 have gl:∀ j:Nat,j < ps.length->(ps ++ [pl]).getD j placeE.d=ps.getD j placeE.d:=fun j hj=>by rw[cB,List.getElem?_append_left hj,cB]
 have gi:(ps ++ [pl]).getD ps.length placeE.d=pl:=by rw[cB,List.getElem?_append_right (pA _)];simp
 have split:∀ j:Nat,j < (ps ++ [pl]).length->j < ps.length∨j=ps.length:=fun j hj=>by simp at hj;omega
 have hn':∀ x∈foot (J A' (i+1) cp'),x∈foot (J Ap i cp)∨w1.heap.size+1≤x:=fun x hx=>by rw[<- hs2];exact hf x hx
 refine⟨⟨?_,?_,by simp[h.len],⟨by simp;have:=h.len;omega,fun j hj=>?_⟩,?_,?_,hF.at_ h.res (fun e=>?_),fun x hx=>?_,h.rq,h.f1,h.f2,fun j hj=>?_⟩,?_⟩
 ·exact(mA (hKS.at_ h.blk hqf) 2 (J A' (i+1) cp')).trans zB
 ·exact hO.ks hkb (fun x hx e=>by
   have e':x=q:=e
   rcases hn' x hx with k | k
   ·exact hqf (e' ▸ k)
   ·omega)
 ·rcases split j hj with k | k
  ·rw[gl j k]
   exact(h.ok.ok j k).ks hF (fun x hx e=>by
    rcases e with e | e
    ·exact((h.sep x e).2.2.2.2 j k).1 hx
    ·exact((h.f3 j k).1 x hx).1 e) (fun x hx e=>by
    rcases e with e | e
    ·exact((h.sep x e).2.2.2.2 j k).2 hx
    ·exact((h.f3 j k).2 x hx).1 e)
  ·rw[k,gi,h.len]
   exact hpl.ks hF1 nl na
 ·exact h.hom.ks hF (fun x hx e=>by
   rcases e with e | e
   ·exact(h.sep x e).2.2.1 hx
   ·exact(h.f1 x hx).1 e)
 ·exact h.fl.ks hF (fun x hx e=>by
   rcases e with e | e
   ·exact(h.sep x e).2.2.2.1 hx
   ·exact(h.f2 x hx).1 e)
 ·rcases e with e | e
  ·exact Nat.lt_irrefl _ (h.sep r e).1
  ·have:=h.rq;omega
 ·rcases hn' x hx with k | k
  ·obtain⟨s1,s2,s3,s4,s5⟩:=h.sep x k
   refine⟨s1,s2,s3,s4,fun j hj=>?_⟩
   rcases split j hj with j1 | j1
   ·rw[gl j j1];exact s5 j j1
   ·rw[j1,gi];exact⟨fun e=>nl x e (.inl k),fun e=>na x e (.inl k)⟩
  ·refine⟨vB,vB,fun e=>by have:=h.hom.lt x e;omega,fun e=>by have:=h.fl.lt x e;omega,fun j hj=>?_⟩
   rcases split j hj with j1 | j1
   ·rw[gl j j1]
    exact⟨fun e=>by have:=(h.ok.ok j j1).2.2.1.lt x e;omega,fun e=>by have:=(h.ok.ok j j1).2.2.2.lt x e;omega⟩
   ·rw[j1,gi];exact⟨fun e=>by have:=hL.lt x e;omega,fun e=>by have:=hA.lt x e;omega⟩
 ·rcases split j hj with j1 | j1
  ·rw[gl j j1];exact h.f3 j j1
  ·rw[j1,gi];exact⟨fun x hx=>⟨fun e=>nl x hx (.inr e),fun e=>by have:=hL.2 x hx;omega⟩,fun x hx=>⟨fun e=>na x hx (.inr e),fun e=>by have:=hA.2 x hx;omega⟩⟩
 ·have hrr:=h.rq
  refine⟨hF.1,hF.2.1,hF.2.2.1,hF.2.2.2.1,fun j hj=>hF.2.2.2.2 j vB (fun e=>?_)⟩
  rcases e with e | e
  ·have:=(h.sep j e).1;omega
  ·omega
theorem zblkS {Y F:cA} (hl:Below (Y.alloc (O #[V I 0,V I 0,J U 0 0,J U 0 0,J U 0 0] 41)).heap.size (Y.alloc (O #[V I 0,V I 0,J U 0 0,J U 0 0,J U 0 0] 41)) F):F.heap[Y.heap.size]?=M (O #[V I 0,V I 0,J U 0 0,J U 0 0,J U 0 0] 41 (0,0)):=kA (nA Y _) hl
theorem zblkSD {Y F:cA} (hl:Below (Y.alloc (O #[V I 0,V I 0,J U 0 0,J U 0 0,J U 0 0] 41)).drew.heap.size (Y.alloc (O #[V I 0,V I 0,J U 0 0,J U 0 0,J U 0 0] 41)).drew F):F.heap[Y.heap.size]?=M (O #[V I 0,V I 0,J U 0 0,J U 0 0,J U 0 0] 41 (0,0)):=kA (fB (nA Y _)) hl
theorem worldShot_new {c:Cfg} {s:S.World} {b:Nat} {F:Set_} {w:cA} (hW:WldAt c s b F w) (hs:WOk c s) (hc:c.check=0):bB dA 10 #[bA (M ⟨b,0,U⟩)] w fun e w'=>∃ Ap Ah Af np cp nh ch nf cf ps,e=.returned (shotV s Ap Ah Af np cp nh ch nf cf)/\ShotV s Ap Ah Af np cp nh ch nf cf ps w.heap.size w'/\Below w.heap.size w w'/\∀ x∈foot (J Af nf cf),w.heap.size < x:=by
 obtain⟨p,K,hK,-⟩:=hW
 have HW:=AS hK
 have HC:=AS (fun X (hb:Below w.heap.size w X)=>homeAll_any (hK.2.2.2.2.1.keep (F':=fun _=>True) (pB (fun _=>False) hb) (fun x _ hF=>⟨trivial,id⟩)))
 have NC:=AS (fun X (hb:Below w.heap.size w X)=>netList_any (hK.2.2.2.2.2.1.keep (F':=fun _=>True) (pB (fun _=>False) hb) (fun x _ hF=>⟨trivial,id⟩)))
 have hnl:=hK.2.2.2.2.2.2.1
 have hn64:=hK.2.2.2.2.2.2.2.1
 have hbl:=eB hK.1
 have ND:=AS (fun i (hi:i < p.ns.length) X (hb:Below w.heap.size w X)=>nodePlace_any ((hK.2.2.2.2.2.2.2.2 i hi).keep (F':=fun _=>True) (pB (fun _=>False) hb) (fun x _ hF=>⟨trivial,id⟩)) (fun k hk=>places_act hs hc vB k hk) (fun ks hn=>places_len hs hc vB ks hn))
 have HNL:=AS hnl
 clear hK hs hc hnl
 have KEEP:=AS (show ∀ x,Below w.heap.size w x->(x.cell? ⟨b,9,U⟩=M (V I s.steps)/\x.cell? ⟨b,10,U⟩=M (V I s.ticks)/\x.cell? ⟨b,12,U⟩=M (bA (M ⟨p.h,0,U⟩))/\x.cell? ⟨b,13,U⟩=M (bA (M ⟨p.y,0,U⟩))) from fun x hx=>by
  have hb1:=kA HW.out.1 hx
  exact⟨cw hb1 9,cw hb1 10,cw hb1 12,cw hb1 13⟩)
 have ZF:=AS (show ∀ (x:cA) (g:Nat),x.heap[g]?=M (O #[V I 0,V I 0,J U 0 0,J U 0 0,J U 0 0] 41 (0,0))->(x.cell? ⟨g,0,U⟩=M (V I 0)/\x.cell? ⟨g,1,U⟩=M (V I 0)/\x.cell? ⟨g,2,U⟩=M (J U 0 0)/\x.cell? ⟨g,3,U⟩=M (J U 0 0)/\x.cell? ⟨g,4,U⟩=M (J U 0 0)/\x.frozen? ⟨g,0,U⟩=false/\x.frozen? ⟨g,1,U⟩=false/\x.frozen? ⟨g,2,U⟩=false/\x.frozen? ⟨g,3,U⟩=false/\x.frozen? ⟨g,4,U⟩=false) from fun x g h=>⟨cw h 0,cw h 1,cw h 2,cw h 3,cw h 4,jA h 0,jA h 1,jA h 2,jA h 3,jA h 4⟩)
 go_enter Tryz.func10,Tryz.ntmps10
 go_upto_region 1 with fail
 have BX:=AS (nA w (O #[V I 0,V I 0,J U 0 0,J U 0 0,J U 0 0] 41))
 have BE:=AS (eA (fA w.heap.size w) (O #[V I 0,V I 0,J U 0 0,J U 0 0,J U 0 0] 41))
 have SZ:=AS (gB w (O #[V I 0,V I 0,J U 0 0,J U 0 0,J U 0 0] 41))
 generalize w.alloc (O #[V I 0,V I 0,J U 0 0,J U 0 0,J U 0 0] 41)=W at BX BE SZ ⊢
 go_cut [3] (fun v3 wx=>(∃ q Ah ch Af cf,v3=bA (M ⟨q,0,U⟩)/\wx.heap[q]?=M (O #[V I s.steps,V I s.ticks,J U 0 0,J Ah s.home.mem.length ch,J Af s.way.length cf] 41 (0,0))/\OwnE bunE (J Ah s.home.mem.length ch) s.home.mem wx/\OwnE letE (J Af s.way.length cf) s.way wx/\(∀ x∈foot (J Ah s.home.mem.length ch),x≠q/\x≠w.heap.size)/\(∀ x∈foot (J Af s.way.length cf),x≠q/\x≠w.heap.size/\w.heap.size < x)/\w.heap.size < q/\wx.heap[w.heap.size]?=M (O #[V I 0,V I 0,J U 0 0,J U 0 0,J U 0 0] 41 (0,0))/\Below w.heap.size w wx))
 case first =>
  obtain⟨e0_,e1_,e2_,e3_⟩:=KEEP.out W BE.out
  go_region_held3 (fun x=>x.cell? ⟨b,9,U⟩=M (V I s.steps)/\x.cell? ⟨b,10,U⟩=M (V I s.ticks)/\x.cell? ⟨b,12,U⟩=M (bA (M ⟨p.h,0,U⟩))/\x.cell? ⟨b,13,U⟩=M (bA (M ⟨p.y,0,U⟩))) ((refine KEEP.out _ ?_;(repeat (first | (with_reducible refine oA ?_ ?_ _;rotate_left;(focus (have z0:=BE.out.size;have z1:=H1.out.size;simp only[gB,iB] at z1 ⊢;omega))) | with_reducible apply eA | with_reducible apply iA | with_reducible exact BE.out | with_reducible refine bchain H2.out ?_ | with_reducible refine bchain H1.out ?_ | with_reducible exact fA _ _)))) ((first | (go_at_call 36;refine(HC.out _ ?_).mono ?_;(focus ((repeat (first | (with_reducible refine oA ?_ ?_ _;rotate_left;(focus (have z0:=BE.out.size;have z1:=H1.out.size;simp only[gB,iB] at z1 ⊢;omega))) | with_reducible apply eA | with_reducible apply iA | with_reducible exact BE.out | with_reducible refine bchain H2.out ?_ | with_reducible refine bchain H1.out ?_ | with_reducible exact fA _ _))));rintro e w1 ⟨v,rfl,hO,hf,hb⟩;obtain⟨Ah,ch,rfl,-⟩:=hO.row;have H1:=AS hb;have L1:=AS (qA hO hf);clear hO hf hb;have hsz:=H1.out.size;(first | rw[gB] at hsz | rw[iB,gB] at hsz);clear hsz;have QF:Aside0 (w1.heap[W.heap.size]?=M (O #[V I 0,V I 0,J U 0 0,J U 0 0,J U 0 0] 41 (0,0))):=AS (zblkSD (Y:=W) (F:=w1) H1.out);obtain⟨q10_,q11_,q12_,q13_,q14_,q15_,q16_,q17_,q18_,q19_⟩:=ZF.out _ _ QF.out) | (go_at_call 36;refine(HC.out _ ?_).mono ?_;(focus ((repeat (first | (with_reducible refine oA ?_ ?_ _;rotate_left;(focus (have z0:=BE.out.size;have z1:=H1.out.size;simp only[gB,iB] at z1 ⊢;omega))) | with_reducible apply eA | with_reducible apply iA | with_reducible exact BE.out | with_reducible refine bchain H2.out ?_ | with_reducible refine bchain H1.out ?_ | with_reducible exact fA _ _))));rintro e w1 ⟨v,rfl,hO,hf,hb⟩;obtain⟨Ah,ch,rfl,-⟩:=hO.row;have H1:=AS hb;have L1:=AS (qA hO hf);clear hO hf hb) | (go_at_call 37;refine(NC.out _ ?_).mono ?_;(focus ((repeat (first | (with_reducible refine oA ?_ ?_ _;rotate_left;(focus (have z0:=BE.out.size;have z1:=H1.out.size;simp only[gB,iB] at z1 ⊢;omega))) | with_reducible apply eA | with_reducible apply iA | with_reducible exact BE.out | with_reducible refine bchain H2.out ?_ | with_reducible refine bchain H1.out ?_ | with_reducible exact fA _ _))));rintro e w2 ⟨v,rfl,hO,hf,hb⟩;obtain⟨Af,cf,rfl,-⟩:=hO.row;have H2:=AS hb;have L2:=AS (qA hO hf);clear hO hf hb;have QF:Aside0 (w2.heap[W.heap.size]?=M (O #[V I 0,V I 0,J U 0 0,J U 0 0,J U 0 0] 41 (0,0))):=AS (kA QF.out H2.out);obtain⟨q20_,q21_,q22_,q23_,q24_,q25_,q26_,q27_,q28_,q29_⟩:=ZF.out _ _ QF.out) | (go_at_call 37;refine(NC.out _ ?_).mono ?_;(focus ((repeat (first | (with_reducible refine oA ?_ ?_ _;rotate_left;(focus (have z0:=BE.out.size;have z1:=H1.out.size;simp only[gB,iB] at z1 ⊢;omega))) | with_reducible apply eA | with_reducible apply iA | with_reducible exact BE.out | with_reducible refine bchain H2.out ?_ | with_reducible refine bchain H1.out ?_ | with_reducible exact fA _ _))));rintro e w2 ⟨v,rfl,hO,hf,hb⟩;obtain⟨Af,cf,rfl,-⟩:=hO.row;have H2:=AS hb;have L2:=AS (qA hO hf);clear hO hf hb;have hsz:=H2.out.size;(first | rw[gB] at hsz | rw[iB,gB] at hsz);clear hsz;have QF:Aside0 (w2.heap[w1.heap.size]?=M (O #[V I 0,V I 0,J U 0 0,J U 0 0,J U 0 0] 41 (0,0))):=AS (zblkS (Y:=w1) (F:=w2) H2.out);obtain⟨q20_,q21_,q22_,q23_,q24_,q25_,q26_,q27_,q28_,q29_⟩:=ZF.out _ _ QF.out) | (go_at_call 37;refine(NC.out _ ?_).mono ?_;(focus ((repeat (first | (with_reducible refine oA ?_ ?_ _;rotate_left;(focus (have z0:=BE.out.size;have z1:=H1.out.size;simp only[gB,iB] at z1 ⊢;omega))) | with_reducible apply eA | with_reducible apply iA | with_reducible exact BE.out | with_reducible refine bchain H2.out ?_ | with_reducible refine bchain H1.out ?_ | with_reducible exact fA _ _))));rintro e w2 ⟨v,rfl,hO,hf,hb⟩;obtain⟨Af,cf,rfl,-⟩:=hO.row;have H2:=AS hb;have L2:=AS (qA hO hf);clear hO hf hb)))
  ·go_wp2_with fail
   go_meet
   have s0:=SZ.out
   have s1:=H1.out.size
   have s2:=H2.out.size
   simp only[gB,iB,sz_set] at s1 s2
   have f1:∀ x∈foot (J Ah s.home.mem.length ch),x≠w2.heap.size/\w.heap.size < x:=fun x hx=>by
    have h1:=L1.out.1.lt x hx
    have h2:=L1.out.2 x hx
    (try simp only[gB,iB,sz_set] at h1 h2)
    omega
   have f2:∀ x∈foot (J Af s.way.length cf),x≠w2.heap.size/\w.heap.size < x:=fun x hx=>by
    have h1:=L2.out.1.lt x hx
    have h2:=L2.out.2 x hx
    (try simp only[gB,iB,sz_set] at h1 h2)
    omega
   refine⟨w2.heap.size,Ah,ch,Af,cf,rfl,?_,L1.out.1.ks (G:=fun y=>y=w2.heap.size) ?_ (fun x hx e=>(f1 x hx).1 e),L2.out.1.ks (G:=fun y=>y=w2.heap.size) ?_ (fun x hx e=>(f2 x hx).1 e),fun x hx=>⟨(f1 x hx).1,by have:=(f1 x hx).2;omega⟩,fun x hx=>⟨(f2 x hx).1,by have:=(f2 x hx).2;omega,(f2 x hx).2⟩,vB,KS.at_ (F:=fun y=>y=w2.heap.size) (w:=w2) ?_ ?_ (fun e=>?_),?_⟩
   ·apply blk_as
    ·(repeat (with_reducible first | apply mA | apply nA | exact QF.out))
    ·simp
   ·(repeat (with_reducible first | refine tB ?_ _ _ | apply KS.alloc | apply sB | exact qB _ _ | refine KS.andBelow ?_ H2.out | refine KS.andBelow ?_ H1.out))
   ·(repeat (with_reducible first | refine tB ?_ _ _ | apply KS.alloc | apply sB | exact qB _ _ | refine KS.andBelow ?_ H2.out | refine KS.andBelow ?_ H1.out))
   ·(repeat (with_reducible first | refine tB ?_ _ _ | apply KS.alloc | apply sB | exact qB _ _ | refine KS.andBelow ?_ H2.out | refine KS.andBelow ?_ H1.out))
   ·(repeat (with_reducible first | exact BX.out | apply lA | apply fB | refine kA ?_ H2.out | refine kA ?_ H1.out))
   ·have e':w.heap.size=w2.heap.size:=e
    omega
   ·(repeat (first | (with_reducible refine oA ?_ ?_ _;rotate_left;(focus (have z0:=BE.out.size;have z1:=H1.out.size;simp only[gB,iB] at z1 ⊢;omega))) | with_reducible apply eA | with_reducible apply iA | with_reducible exact BE.out | with_reducible refine bchain H2.out ?_ | with_reducible refine bchain H1.out ?_ | with_reducible exact fA _ _))
  ·go_wp2_with fail
   go_meet
   have s0:=SZ.out
   have s1:=H1.out.size
   have s2:=H2.out.size
   simp only[gB,iB,sz_set] at s1 s2
   have f1:∀ x∈foot (J Ah s.home.mem.length ch),x≠w1.heap.size/\w.heap.size < x:=fun x hx=>by
    have h1:=L1.out.1.lt x hx
    have h2:=L1.out.2 x hx
    (try simp only[gB,iB,sz_set] at h1 h2)
    omega
   have f2:∀ x∈foot (J Af s.way.length cf),x≠w1.heap.size/\w.heap.size < x:=fun x hx=>by
    have h1:=L2.out.1.lt x hx
    have h2:=L2.out.2 x hx
    (try simp only[gB,iB,sz_set] at h1 h2)
    omega
   refine⟨w1.heap.size,Ah,ch,Af,cf,rfl,?_,L1.out.1.ks (G:=fun y=>y=w1.heap.size) ?_ (fun x hx e=>(f1 x hx).1 e),L2.out.1.ks (G:=fun y=>y=w1.heap.size) ?_ (fun x hx e=>(f2 x hx).1 e),fun x hx=>⟨(f1 x hx).1,by have:=(f1 x hx).2;omega⟩,fun x hx=>⟨(f2 x hx).1,by have:=(f2 x hx).2;omega,(f2 x hx).2⟩,vB,KS.at_ (F:=fun y=>y=w1.heap.size) (w:=w2) ?_ ?_ (fun e=>?_),?_⟩
   ·apply blk_as
    ·(repeat (with_reducible first | apply mA | apply nA | exact QF.out))
    ·simp
   ·(repeat (with_reducible first | refine tB ?_ _ _ | apply KS.alloc | apply sB | exact qB _ _ | refine KS.andBelow ?_ H2.out | refine KS.andBelow ?_ H1.out))
   ·(repeat (with_reducible first | refine tB ?_ _ _ | apply KS.alloc | apply sB | exact qB _ _ | refine KS.andBelow ?_ H2.out | refine KS.andBelow ?_ H1.out))
   ·(repeat (with_reducible first | refine tB ?_ _ _ | apply KS.alloc | apply sB | exact qB _ _ | refine KS.andBelow ?_ H2.out | refine KS.andBelow ?_ H1.out))
   ·(repeat (with_reducible first | exact BX.out | apply lA | apply fB | refine kA ?_ H2.out | refine kA ?_ H1.out))
   ·have e':w.heap.size=w1.heap.size:=e
    omega
   ·(repeat (first | (with_reducible refine oA ?_ ?_ _;rotate_left;(focus (have z0:=BE.out.size;have z1:=H1.out.size;simp only[gB,iB] at z1 ⊢;omega))) | with_reducible apply eA | with_reducible apply iA | with_reducible exact BE.out | with_reducible refine bchain H2.out ?_ | with_reducible refine bchain H1.out ?_ | with_reducible exact fA _ _))
  ·go_wp2_with fail
   go_meet
   have s0:=SZ.out
   have s1:=H1.out.size
   have s2:=H2.out.size
   simp only[gB,iB,sz_set] at s1 s2
   have f1:∀ x∈foot (J Ah s.home.mem.length ch),x≠W.heap.size/\w.heap.size < x:=fun x hx=>by
    have h1:=L1.out.1.lt x hx
    have h2:=L1.out.2 x hx
    (try simp only[gB,iB,sz_set] at h1 h2)
    omega
   have f2:∀ x∈foot (J Af s.way.length cf),x≠W.heap.size/\w.heap.size < x:=fun x hx=>by
    have h1:=L2.out.1.lt x hx
    have h2:=L2.out.2 x hx
    (try simp only[gB,iB,sz_set] at h1 h2)
    omega
   refine⟨W.heap.size,Ah,ch,Af,cf,rfl,?_,L1.out.1.ks (G:=fun y=>y=W.heap.size) ?_ (fun x hx e=>(f1 x hx).1 e),L2.out.1.ks (G:=fun y=>y=W.heap.size) ?_ (fun x hx e=>(f2 x hx).1 e),fun x hx=>⟨(f1 x hx).1,by have:=(f1 x hx).2;omega⟩,fun x hx=>⟨(f2 x hx).1,by have:=(f2 x hx).2;omega,(f2 x hx).2⟩,vB,KS.at_ (F:=fun y=>y=W.heap.size) (w:=w2) ?_ ?_ (fun e=>?_),?_⟩
   ·apply blk_as
    ·(repeat (with_reducible first | apply mA | apply nA | exact QF.out))
    ·simp
   ·(repeat (with_reducible first | refine tB ?_ _ _ | apply KS.alloc | apply sB | exact qB _ _ | refine KS.andBelow ?_ H2.out | refine KS.andBelow ?_ H1.out))
   ·(repeat (with_reducible first | refine tB ?_ _ _ | apply KS.alloc | apply sB | exact qB _ _ | refine KS.andBelow ?_ H2.out | refine KS.andBelow ?_ H1.out))
   ·(repeat (with_reducible first | refine tB ?_ _ _ | apply KS.alloc | apply sB | exact qB _ _ | refine KS.andBelow ?_ H2.out | refine KS.andBelow ?_ H1.out))
   ·(repeat (with_reducible first | exact BX.out | apply lA | apply fB | refine kA ?_ H2.out | refine kA ?_ H1.out))
   ·have e':w.heap.size=W.heap.size:=e
    omega
   ·(repeat (first | (with_reducible refine oA ?_ ?_ _;rotate_left;(focus (have z0:=BE.out.size;have z1:=H1.out.size;simp only[gB,iB] at z1 ⊢;omega))) | with_reducible apply eA | with_reducible apply iA | with_reducible exact BE.out | with_reducible refine bchain H2.out ?_ | with_reducible refine bchain H1.out ?_ | with_reducible exact fA _ _))
 case rest =>
  obtain⟨q,Ah,ch,Af,cf,rfl,hQ,hO1,hO2,hf1,hf2,hq,hR,hbe⟩:=hcut
  have R0:=AS (show ∃ Ap cp ps,ShL s q Ah Af ch cf w.heap.size 0 Ap cp ps wc/\Below w.heap.size w wc from⟨U,0,[],⟨hQ,OwnE.nil _,rfl,⟨Nat.zero_le _,fun i hi=>absurd hi zB⟩,hO1,hO2,hR,fun x hx=>by simp[foot_nil] at hx,hq,fun x hx=>⟨(hf1 x hx).1,(hf1 x hx).2⟩,fun x hx=>⟨(hf2 x hx).1,(hf2 x hx).2⟩,fun j hj=>absurd hj zB⟩,hbe⟩)
  have e11:=cw (kA HW.out.1 hbe) 11 (v:=J p.A p.ns.length p.cp)
  clear hQ hO1 hO2 hf1 hf2 hR hbe
  go_wp2_with fail
  go_loopw [5,30] (fun v5 v30 wr=>∃ i:Nat,v30=V I i/\i≤p.ns.length/\Aside0 (∃ Ap cp ps,ShL s q Ah Af ch cf w.heap.size i Ap cp ps wr/\Below w.heap.size w wr)) (fun _ v30 _=>65 - (intOf v30).toNat)
  case atStart=>exact⟨0,rfl,vB,R0⟩
  case round =>
   obtain⟨i,rfl,hi,R⟩:=hrel
   obtain⟨Ap,cp,ps,r1,r2⟩:=R.out
   by_cases hc:i < p.ns.length
   ·have q0:(0:Int)≤(i:Int):=vB
    have q1:(i:Int) < (p.ns.length:Int):=vB
    obtain⟨gA,hgA,hgi⟩:=HW.out.ptr hc
    have hgl:gA < w.heap.size:=World.block_lt_of_cell? w _ hgi
    have hgi':wr.cell? ⟨gA,i,U⟩=M (bA (M ⟨p.ns.getD i 0,0,U⟩)):=((bcell r2).1 gA i hgl).trans hgi
    have PC:=AS (fun X hb=>ND.out i hc X hb)
    have RX:=AS (qA r1 r2)
    have HII:=AS (show i < s.nodes.length by have:=HNL.out;omega)
    have k11:=cw r1.blk 2 (v:=J Ap i cp)
    have k11':wr.drew.cell? ⟨q,2,U⟩=M (J Ap i cp):=k11
    have hlq:=eB r1.blk
    generalize hni:p.ns.getD i 0=ni at *
    generalize hA:p.A=PA at *
    subst hgA
    generalize hnd:s.nodes.getD i (S.Node.new i)=nd at PC
    have HND:=AS hnd
    clear r1 r2 hni hA hi hnd
    go_upto_region 5 with fail
    go_region_law ((first | (go_simp;go_at_call 38;refine(PC.out _ (RX.out.2.trans (Below.mono (B:=wr.heap.size) (iA (fA _ _)) RX.out.2.size))).mono ?_;rintro e w1 ⟨vl,va,rfl,hL,hA,hb⟩;have hLc:=hL;have hAc:=hA;obtain⟨⟨ks1,-,-,hLo⟩,-⟩:=hLc;obtain⟨⟨ks2,-,-,hAo⟩,-⟩:=hAc;obtain⟨L1,lc,hvl,-⟩:=hLo.row;obtain⟨L2,ac,hva,-⟩:=hAo.row;obtain⟨ln,hln⟩:∃ n,vl=J L1 n lc:=⟨_,hvl⟩;obtain⟨an,han⟩:∃ n,va=J L2 n ac:=⟨_,hva⟩;clear hLo hAo hvl hva;subst hln han;have BR1:=AS (show Below wr.heap.size wr w1 from(iA (fA _ _)).trans hb);have HL:=AS (qA hL hA);clear hL hA hb;simp only[placeV];have k12:w1.cell? ⟨q,2,U⟩=M (J Ap i cp):=((bcell BR1.out).1 q 2 hlq).trans k11;have k13:(w1.alloc (O #[J L1 ln lc,aA nd.cpu.busy,V I nd.cpu.op.block,aA nd.cpu.op.write,V I nd.cpu.op.value,J L2 an ac] 53)).cell? ⟨q,2,U⟩=M (J Ap i cp):=((bcell (eA BR1.out (O #[J L1 ln lc,aA nd.cpu.busy,V I nd.cpu.op.block,aA nd.cpu.op.write,V I nd.cpu.op.value,J L2 an ac] 53))).1 q 2 hlq).trans k11;have OA:=AS (show OwnE placeE (J Ap i cp) ps (w1.alloc (O #[J L1 ln lc,aA nd.cpu.busy,V I nd.cpu.op.block,aA nd.cpu.op.write,V I nd.cpu.op.value,J L2 an ac] 53)) from RX.out.1.own.ks (pB (fun _=>False) (eA BR1.out _)) (fun _ _=>id));have RA:=AS (show RowE placeE (w1.alloc (O #[J L1 ln lc,aA nd.cpu.busy,V I nd.cpu.op.block,aA nd.cpu.op.write,V I nd.cpu.op.value,J L2 an ac] 53)) (M ⟨w1.heap.size,0,U⟩) [(⟨J L1 ln lc,nd.cpu.busy,nd.cpu.op,J L2 an ac,rfl,rfl⟩:PlaceR)] from rowE_one (E:=placeE) (x:=(⟨J L1 ln lc,nd.cpu.busy,nd.cpu.op,J L2 an ac,rfl,rfl⟩:PlaceR)) (nA w1 (O #[J L1 ln lc,aA nd.cpu.busy,V I nd.cpu.op.block,aA nd.cpu.op.write,V I nd.cpu.op.value,J L2 an ac] 53)))) | (refine step_appE (E:=placeE) (xs:=ps) (ys:=[(⟨J L1 ln lc,nd.cpu.busy,nd.cpu.op,J L2 an ac,rfl,rfl⟩:PlaceR)]) xB _ _ rfl rfl rfl rfl (by exact OA.out) (by exact RA.out) (by have:=RX.out.1.len;show _ * 80≤_;simp;omega) ?_;intro v1 w3 hO hK hf;have hk3:KS (fun x=>x∈foot (J Ap i cp)) (w1.alloc (O #[J L1 ln lc,aA nd.cpu.busy,V I nd.cpu.op.block,aA nd.cpu.op.write,V I nd.cpu.op.value,J L2 an ac] 53)) w3:=KS.keeps hK;obtain⟨A3,n3,k3,rfl⟩:∃ A n c,v1=J A n c:=(by obtain⟨A,c,h,_⟩:=OwnE.row hO;exact⟨_,_,_,h⟩);have hn3:n3=i+1:=(by obtain⟨A,c,h,_⟩:=OwnE.row hO;injection h with h1 h2 h3;have:=RX.out.1.len;simp at h2;omega);subst hn3;have Y1:=AS (hk3.at_ (lA (kA RX.out.1.blk BR1.out) (O #[J L1 ln lc,aA nd.cpu.busy,V I nd.cpu.op.block,aA nd.cpu.op.write,V I nd.cpu.op.value,J L2 an ac] 53)) (fun e=>(RX.out.1.sep q e).2.1 rfl));have y2:w3.frozen? ⟨q,2,U⟩=false:=jA Y1.out 2;have y3:w3.cell? ⟨q,2,U⟩=M (J Ap i cp):=cw Y1.out 2;have FI:=AS (show _/\Below w.heap.size w (w3.setCell ⟨q,2,U⟩ (J A3 (i+1) k3)) from(by have h5:=RX.out.1.push (pl:=(⟨J L1 ln lc,nd.cpu.busy,nd.cpu.op,J L2 an ac,rfl,rfl⟩:PlaceR)) HII.out (eB RX.out.1.res) BR1.out (by rw[HND.out]) (by rw[HND.out]) (by rw[HND.out];exact HL.out.1) (by rw[HND.out];exact HL.out.2) (O #[J L1 ln lc,aA nd.cpu.busy,V I nd.cpu.op.block,aA nd.cpu.op.write,V I nd.cpu.op.value,J L2 an ac] 53) hO hk3 (fun x hx=>by rcases hf with e | e;exact .inl (by rw[e] at hx;exact hx);exact .inr (by rw[e] at hx;simp only[tA] at hx;omega));exact⟨h5.1,RX.out.2.trans h5.2⟩));clear hO hK hf hk3)))
    all_goals
     go_wp2
     go_roundw
     case rel=>exact⟨i+1,by go_num,vB,⟨⟨_,_,_,FI.out⟩⟩⟩
     case measure=>simp[intOf];omega
   ·have hin:i=p.ns.length:=vB
    subst hin
    have RX:=AS (qA r1 r2)
    have e0_:=cw r1.blk 0 (v:=V I s.steps)
    have e1_:=cw r1.blk 1 (v:=V I s.ticks)
    have e2_:=cw r1.blk 2 (v:=J Ap p.ns.length cp)
    have e3_:=cw r1.blk 3 (v:=J Ah s.home.mem.length ch)
    have e4_:=cw r1.blk 4 (v:=J Af s.way.length cf)
    have f0_:=cw r1.res 0 (v:=V I 0)
    have f1_:=cw r1.res 1 (v:=V I 0)
    have f2_:=cw r1.res 2 (v:=J U 0 0)
    have f3_:=cw r1.res 3 (v:=J U 0 0)
    have f4_:=cw r1.res 4 (v:=J U 0 0)
    have z0_:=jA r1.res 0
    have z1_:=jA r1.res 1
    have z2_:=jA r1.res 2
    have z3_:=jA r1.res 3
    have z4_:=jA r1.res 4
    clear r1 r2
    go_wp2
    have KK5:=AS (show KS (fun y=>y=w.heap.size) wr ((((((wr).setCell ⟨w.heap.size,0,U⟩ (V I s.steps)).setCell ⟨w.heap.size,1,U⟩ (V I s.ticks)).setCell ⟨w.heap.size,2,U⟩ (J Ap p.ns.length cp)).setCell ⟨w.heap.size,3,U⟩ (J Ah s.home.mem.length ch)).setCell ⟨w.heap.size,4,U⟩ (J Af s.way.length cf)) from(by repeat (with_reducible first | refine tB ?_ _ _ | exact qB _ _)))
    have R5:=AS (show((((((wr).setCell ⟨w.heap.size,0,U⟩ (V I s.steps)).setCell ⟨w.heap.size,1,U⟩ (V I s.ticks)).setCell ⟨w.heap.size,2,U⟩ (J Ap p.ns.length cp)).setCell ⟨w.heap.size,3,U⟩ (J Ah s.home.mem.length ch)).setCell ⟨w.heap.size,4,U⟩ (J Af s.way.length cf)).heap[w.heap.size]?=M (O #[V I s.steps,V I s.ticks,J Ap p.ns.length cp,J Ah s.home.mem.length ch,J Af s.way.length cf] 41 (0,0)) from(by
     have q0:=mA RX.out.1.res 0 (V I s.steps)
     have q1:=mA q0 1 (V I s.ticks)
     have q2:=mA q1 2 (J Ap p.ns.length cp)
     have q3:=mA q2 3 (J Ah s.home.mem.length ch)
     have q4:=mA q3 4 (J Af s.way.length cf)
     exact blk_as q4 zB))
    generalize (((((wr).setCell ⟨w.heap.size,0,U⟩ (V I s.steps)).setCell ⟨w.heap.size,1,U⟩ (V I s.ticks)).setCell ⟨w.heap.size,2,U⟩ (J Ap p.ns.length cp)).setCell ⟨w.heap.size,3,U⟩ (J Ah s.home.mem.length ch)).setCell ⟨w.heap.size,4,U⟩ (J Af s.way.length cf)=W5 at R5 KK5 ⊢
    obtain⟨g0_,g1_,g2_,g3_,g4_⟩:=(show W5.cell? ⟨w.heap.size,0,U⟩=M (V I s.steps)/\W5.cell? ⟨w.heap.size,1,U⟩=M (V I s.ticks)/\W5.cell? ⟨w.heap.size,2,U⟩=M (J Ap p.ns.length cp)/\W5.cell? ⟨w.heap.size,3,U⟩=M (J Ah s.home.mem.length ch)/\W5.cell? ⟨w.heap.size,4,U⟩=M (J Af s.way.length cf) from⟨cw R5.out 0,cw R5.out 1,cw R5.out 2,cw R5.out 3,cw R5.out 4⟩)
    refine yA (v:=shotV s Ap Ah Af p.ns.length cp s.home.mem.length ch s.way.length cf) (by simp[results,Tryz.results10,go_sem,shotV,g0_,g1_,g2_,g3_,g4_]) rfl ?_
    obtain⟨r1,r2⟩:=RX.out
    have hk:=KK5.out
    refine⟨Ap,Ah,Af,p.ns.length,cp,_,ch,_,cf,ps,rfl,⟨r1.own.ks hk (fun x hx e=>by have:=(r1.sep x hx).1;have e':x=w.heap.size:=e;omega),r1.len.symm,r1.len.trans HNL.out,⟨r1.ok.len,fun j hj=>(r1.ok.ok j hj).ks hk (fun x hx e=>((r1.f3 j hj).1 x hx).2 e) (fun x hx e=>((r1.f3 j hj).2 x hx).2 e)⟩,r1.hom.ks hk (fun x hx e=>(r1.f1 x hx).2 e),r1.fl.ks hk (fun x hx e=>(r1.f2 x hx).2.1 e),rfl,rfl⟩,r2.trans (hk.toBelow (fun y hy=>by have hy':y=w.heap.size:=hy;omega) r2.size),fun x hx=>(r1.f2 x hx).2.2⟩
theorem worldShot_any {c:Cfg} {s:S.World} {b:Nat} {F:Set_} {w:cA} (hW:WldAt c s b F w) (hs:WOk c s) (hc:c.check=0):bB dA 10 #[bA (M ⟨b,0,U⟩)] w fun e w'=>∃ Ap Ah Af np cp nh ch nf cf ps,e=.returned (shotV s Ap Ah Af np cp nh ch nf cf)/\ShotV s Ap Ah Af np cp nh ch nf cf ps w.heap.size w'/\Below w.heap.size w w' :=
 (worldShot_new hW hs hc).mono (by rintro e w' ⟨Ap,Ah,Af,np,cp,nh,ch,nf,cf,ps,h1,h2,h3,-⟩;exact⟨Ap,Ah,Af,np,cp,nh,ch,nf,cf,ps,h1,h2,h3⟩)
theorem worldNew_any (c:Cfg) (hc:c.check=0) (w:cA):bB dA 8 #[cfgV c] w fun e w'=>∃ b',e=.returned (.tuple #[bA (M ⟨b',0,U⟩),V I 0])/\WldAt c (S.World.new c) b' (nw w) w'/\Below w.heap.size w w':=by
 obtain⟨-,-,-,-,hcap1,hcap2,-,-,-,-,-,-,hn1,hn2,-⟩:=check_ok hc
 have hroom:roomOf c.cap=c.cap:=by unfold roomOf;omega
 have CK:=AS (show ∀ W',bB dA 21 _ W' _ from fun W'=>config_any c W')
 rw[hc] at CK
 have HC:=AS (fun X=>homeNew_any c hc X)
 have NN:=AS (fun(i:Nat) (hi:(i:Int) < c.nodes) X=>nodeNew_any c hc i vB hi X)
 have NC:=AS (fun X=>netNew_any c.cap X)
 rw[hroom] at NC
 have BN:=AS (nA w (O #[V I c.nodes,V I c.blocks,V I c.tokens,V I c.sets,V I c.ways,V I c.cap,V I c.wait,V I c.tries,V I c.policy] 23))
 have B0:=AS (eA (fA w.heap.size w) (O #[V I c.nodes,V I c.blocks,V I c.tokens,V I c.sets,V I c.ways,V I c.cap,V I c.wait,V I c.tries,V I c.policy] 23))
 have SZ:=AS (gB w (O #[V I c.nodes,V I c.blocks,V I c.tokens,V I c.sets,V I c.ways,V I c.cap,V I c.wait,V I c.tries,V I c.policy] 23))
 clear hroom hcap1 hcap2 hc
 simp only[cfgV] at CK HC NN ⊢
 obtain⟨e0_,e1_,e2_,e3_,e4_,e5_,e6_,e7_,e8_⟩:=(show(w.alloc (O #[V I c.nodes,V I c.blocks,V I c.tokens,V I c.sets,V I c.ways,V I c.cap,V I c.wait,V I c.tries,V I c.policy] 23)).cell? ⟨w.heap.size,0,U⟩=M (V I c.nodes)/\(w.alloc (O #[V I c.nodes,V I c.blocks,V I c.tokens,V I c.sets,V I c.ways,V I c.cap,V I c.wait,V I c.tries,V I c.policy] 23)).cell? ⟨w.heap.size,1,U⟩=M (V I c.blocks)/\(w.alloc (O #[V I c.nodes,V I c.blocks,V I c.tokens,V I c.sets,V I c.ways,V I c.cap,V I c.wait,V I c.tries,V I c.policy] 23)).cell? ⟨w.heap.size,2,U⟩=M (V I c.tokens)/\(w.alloc (O #[V I c.nodes,V I c.blocks,V I c.tokens,V I c.sets,V I c.ways,V I c.cap,V I c.wait,V I c.tries,V I c.policy] 23)).cell? ⟨w.heap.size,3,U⟩=M (V I c.sets)/\(w.alloc (O #[V I c.nodes,V I c.blocks,V I c.tokens,V I c.sets,V I c.ways,V I c.cap,V I c.wait,V I c.tries,V I c.policy] 23)).cell? ⟨w.heap.size,4,U⟩=M (V I c.ways)/\(w.alloc (O #[V I c.nodes,V I c.blocks,V I c.tokens,V I c.sets,V I c.ways,V I c.cap,V I c.wait,V I c.tries,V I c.policy] 23)).cell? ⟨w.heap.size,5,U⟩=M (V I c.cap)/\(w.alloc (O #[V I c.nodes,V I c.blocks,V I c.tokens,V I c.sets,V I c.ways,V I c.cap,V I c.wait,V I c.tries,V I c.policy] 23)).cell? ⟨w.heap.size,6,U⟩=M (V I c.wait)/\(w.alloc (O #[V I c.nodes,V I c.blocks,V I c.tokens,V I c.sets,V I c.ways,V I c.cap,V I c.wait,V I c.tries,V I c.policy] 23)).cell? ⟨w.heap.size,7,U⟩=M (V I c.tries)/\(w.alloc (O #[V I c.nodes,V I c.blocks,V I c.tokens,V I c.sets,V I c.ways,V I c.cap,V I c.wait,V I c.tries,V I c.policy] 23)).cell? ⟨w.heap.size,8,U⟩=M (V I c.policy) from⟨cw BN.out 0,cw BN.out 1,cw BN.out 2,cw BN.out 3,cw BN.out 4,cw BN.out 5,cw BN.out 6,cw BN.out 7,cw BN.out 8⟩)
 go_enter Tryz.func8,Tryz.ntmps8
 go_wp2_with fail
 generalize w.alloc (O #[V I c.nodes,V I c.blocks,V I c.tokens,V I c.sets,V I c.ways,V I c.cap,V I c.wait,V I c.tries,V I c.policy] 23)=W at BN B0 SZ e0_ e1_ e2_ e3_ e4_ e5_ e6_ e7_ e8_ ⊢
 refine(CK.out W).mono ?_
 rintro e wB ⟨rfl,hb2⟩
 have hs0:=B0.out.size
 have BN2:=AS (kA BN.out hb2)
 have B2':=AS (B0.out.trans (hb2.mono hs0))
 clear hb2 CK e0_ e1_ e2_ e3_ e4_ e5_ e6_ e7_ e8_ BN B0 hs0
 have KEEP:=AS (show ∀ x,Below wB.heap.size wB x->(x.cell? ⟨w.heap.size,0,U⟩=M (V I c.nodes)/\x.cell? ⟨w.heap.size,1,U⟩=M (V I c.blocks)/\x.cell? ⟨w.heap.size,2,U⟩=M (V I c.tokens)/\x.cell? ⟨w.heap.size,3,U⟩=M (V I c.sets)/\x.cell? ⟨w.heap.size,4,U⟩=M (V I c.ways)/\x.cell? ⟨w.heap.size,5,U⟩=M (V I c.cap)/\x.cell? ⟨w.heap.size,6,U⟩=M (V I c.wait)/\x.cell? ⟨w.heap.size,7,U⟩=M (V I c.tries)/\x.cell? ⟨w.heap.size,8,U⟩=M (V I c.policy)) from fun x hx=>by have h11:=kA BN2.out hx;exact⟨cw h11 0,cw h11 1,cw h11 2,cw h11 3,cw h11 4,cw h11 5,cw h11 6,cw h11 7,cw h11 8⟩)
 obtain⟨e0_,e1_,e2_,e3_,e4_,e5_,e6_,e7_,e8_⟩:=KEEP.out wB (fA _ _)
 go_upto_region 4 with fail
 go_cut [5] (fun v5 wx=>∃ w1 y1,v5=bA (M ⟨w1.heap.size,0,U⟩)/\wx=w1.alloc (O #[V I c.nodes,V I c.blocks,V I c.tokens,V I c.sets,V I c.ways,V I c.cap,V I c.wait,V I c.tries,V I c.policy,V I 0,V I 0,J U 0 0,.pointer U,bA (M ⟨y1,0,U⟩)] 91)/\Below wB.heap.size wB w1/\NetAt c.cap [] y1 (fun x=>wB.heap.size≤x/\x < w1.heap.size) w1)
 case first =>
  go_region_held3 (fun x=>x.cell? ⟨w.heap.size,0,U⟩=M (V I c.nodes)/\x.cell? ⟨w.heap.size,1,U⟩=M (V I c.blocks)/\x.cell? ⟨w.heap.size,2,U⟩=M (V I c.tokens)/\x.cell? ⟨w.heap.size,3,U⟩=M (V I c.sets)/\x.cell? ⟨w.heap.size,4,U⟩=M (V I c.ways)/\x.cell? ⟨w.heap.size,5,U⟩=M (V I c.cap)/\x.cell? ⟨w.heap.size,6,U⟩=M (V I c.wait)/\x.cell? ⟨w.heap.size,7,U⟩=M (V I c.tries)/\x.cell? ⟨w.heap.size,8,U⟩=M (V I c.policy)) ((refine KEEP.out _ ?_;(repeat (with_reducible first | exact H1.out | apply eA | apply iA | exact fA _ _)))) ((first | (go_at_call 22;refine(NC.out _).mono ?_;rintro e w1 ⟨rfl,hN,hb⟩;have H1:=AS (show Below wB.heap.size wB w1 from(iA (fA _ _)).trans hb);have N1:=AS (hN.keep (F':=fun x=>wB.heap.size≤x/\x < w1.heap.size) (qB (fun _=>False) _) (fun x hx hF=>⟨⟨hF,hx⟩,id⟩));clear hN hb) | fail))
  all_goals
   go_wp2_with fail
   go_meet
   exact⟨w1,_,rfl,rfl,H1.out,N1.out⟩
 case rest =>
  obtain⟨w1,y1,rfl,rfl,hb1,hN1⟩:=hcut
  have H1:=AS hb1
  have N1:=AS hN1
  clear e0_ e1_ e2_ e3_ e4_ e5_ e6_ e7_ e8_ hb1 hN1
  have H2:=AS (eA H1.out (O #[V I c.nodes,V I c.blocks,V I c.tokens,V I c.sets,V I c.ways,V I c.cap,V I c.wait,V I c.tries,V I c.policy,V I 0,V I 0,J U 0 0,.pointer U,bA (M ⟨y1,0,U⟩)] 91))
  have G2:=AS (nA w1 (O #[V I c.nodes,V I c.blocks,V I c.tokens,V I c.sets,V I c.ways,V I c.cap,V I c.wait,V I c.tries,V I c.policy,V I 0,V I 0,J U 0 0,.pointer U,bA (M ⟨y1,0,U⟩)] 91))
  have N2:=AS (N1.out.keep (F':=fun x=>wB.heap.size≤x/\x < w1.heap.size) (w':=w1.alloc (O #[V I c.nodes,V I c.blocks,V I c.tokens,V I c.sets,V I c.ways,V I c.cap,V I c.wait,V I c.tries,V I c.policy,V I 0,V I 0,J U 0 0,.pointer U,bA (M ⟨y1,0,U⟩)] 91)) (pB (fun _=>False) (eA (fA _ _) _)) (fun x _ h=>⟨h,id⟩))
  have S2:=AS (gB w1 (O #[V I c.nodes,V I c.blocks,V I c.tokens,V I c.sets,V I c.ways,V I c.cap,V I c.wait,V I c.tries,V I c.policy,V I 0,V I 0,J U 0 0,.pointer U,bA (M ⟨y1,0,U⟩)] 91))
  generalize w1.alloc (O #[V I c.nodes,V I c.blocks,V I c.tokens,V I c.sets,V I c.ways,V I c.cap,V I c.wait,V I c.tries,V I c.policy,V I 0,V I 0,J U 0 0,.pointer U,bA (M ⟨y1,0,U⟩)] 91)=W2 at H2 G2 N2 S2 ⊢
  generalize hg0:w1.heap.size=g0 at *
  obtain⟨e0_,e1_,e2_,e3_,e4_,e5_,e6_,e7_,e8_⟩:=KEEP.out W2 H2.out
  go_wp2_with fail
  refine(HC.out _).mono ?_
  rintro e w3 ⟨b3,rfl,hH,hb3⟩
  have H3:=AS hb3
  have HH:=AS hH
  have G3:=AS (kA G2.out hb3)
  have N3:=AS (N2.out.keep (F':=fun x=>wB.heap.size≤x/\x < g0) (pB (fun _=>False) hb3) (fun x _ h=>⟨h,id⟩))
  have c12:=cw G3.out 12 (v:=.pointer U)
  have z12:=jA G3.out 12
  clear e0_ e1_ e2_ e3_ e4_ e5_ e6_ e7_ e8_ hH hb3
  go_upto_region 6 with fail
  have R0:=AS (show(∃ p' K',WldK c (⟨0,0,(List.range 0).map (fun(i:Nat)=>S.Node.new i),Home.new c,[]⟩:S.World) g0 p' K' (w3.setCell ⟨g0,12,U⟩ (bA (M ⟨b3,0,U⟩)))/\(∀ x,x < (w3.setCell ⟨g0,12,U⟩ (bA (M ⟨b3,0,U⟩))).heap.size->K' x < 100->w.heap.size≤x)/\K' w.heap.size=200/\(w3.setCell ⟨g0,12,U⟩ (bA (M ⟨b3,0,U⟩))).heap[w.heap.size]?=M (O #[V I c.nodes,V I c.blocks,V I c.tokens,V I c.sets,V I c.ways,V I c.cap,V I c.wait,V I c.tries,V I c.policy] 23 (0,0))/\Below w.heap.size w (w3.setCell ⟨g0,12,U⟩ (bA (M ⟨b3,0,U⟩)))) from by
   have hkb:=KS.set (qB (fun x=>x=g0) w3) (.inl rfl) 12 (bA (M ⟨b3,0,U⟩)) (g:=g0)
   have hz1:=B2'.out.size
   have hz2:=H1.out.size
   have hz3:=H3.out.size
   have hz4:=S2.out
   have hz5:=SZ.out
   have hz6:=eB BN2.out
   refine⟨⟨b3,y1,U,0,[]⟩,_,WldK.mk0 (F2:=nw W2) (F3:=fun x=>wB.heap.size≤x/\x < g0) ?_ (HH.out.keep hkb (fun x _ h=>⟨h,fun e=>by have h':W2.heap.size≤x:=h;have e':x=g0:=e;omega⟩)) (N3.out.keep hkb (fun x _ h=>⟨h,fun e=>by have:=h.2;have e':x=g0:=e;omega⟩)) (fun h=>by have h':W2.heap.size≤g0:=h;omega) (fun h=>by have:=h.2;omega) (fun x h1 h2=>by have h1':W2.heap.size≤x:=h1;have:=h2.2;omega),fun x hx h100=>?_,?_,hkb.at_ (kA (kA BN2.out H2.out) (H3.out.mono (pA _))) (fun e=>by have e':w.heap.size=g0:=e;omega),?_⟩
   ·exact(mA G3.out 12 _).trans (by simp[wldC])
   ·by_cases e0:x=g0
    ·omega
    ·by_cases e1:nw W2 x
     ·have e1':W2.heap.size≤x:=e1;omega
     ·by_cases e2:wB.heap.size≤x/\x < g0
      ·omega
      ·simp only[if_neg e0,if_neg e1,if_neg e2] at h100;omega
   ·have e0:w.heap.size≠g0:=vB
    have e1:¬ nw W2 w.heap.size:=fun h=>by have h':W2.heap.size≤w.heap.size:=h;omega
    have e2:¬ (wB.heap.size≤w.heap.size/\w.heap.size < g0):=fun h=>by omega
    simp only[if_neg e0,if_neg e1,if_neg e2]
   ·exact(B2'.out.trans (H2.out.mono hz1)).trans ((H3.out.mono vB).trans (hkb.toBelow (fun y hy=>by have hy':y=g0:=hy;omega) vB)))
  generalize w3.setCell ⟨g0,12,U⟩ (bA (M ⟨b3,0,U⟩))=W4 at R0 ⊢
  clear c12 z12
  have k0_:W4.cell? ⟨w.heap.size,0,U⟩=M (V I c.nodes):=by obtain⟨p',K',-,-,-,h,-⟩:=R0.out;exact(cw h 0)
  go_wp2_with fail
  go_loopw [6,7,8,30] (fun v6 v7 v8 v30 wr=>∃ i:Nat,v30=V I i/\(i:Int)≤c.nodes/\Aside0 (∃ p' K',WldK c (⟨0,0,(List.range i).map (fun(i:Nat)=>S.Node.new i),Home.new c,[]⟩:S.World) g0 p' K' wr/\(∀ x,x < wr.heap.size->K' x < 100->w.heap.size≤x)/\K' w.heap.size=200/\wr.heap[w.heap.size]?=M (O #[V I c.nodes,V I c.blocks,V I c.tokens,V I c.sets,V I c.ways,V I c.cap,V I c.wait,V I c.tries,V I c.policy] 23 (0,0))/\Below w.heap.size w wr)) (fun _ _ _ v30 _=>65 - (intOf v30).toNat)
  case atStart=>exact⟨0,rfl,vB,R0⟩
  case round =>
   obtain⟨i,rfl,hi,R⟩:=hrel
   obtain⟨p',K',r1,r2,r3,r4,r5⟩:=R.out
   by_cases hcc:(i:Int) < c.nodes
   ·have hpl:p'.ns.length=i:=by rw[r1.2.2.2.2.2.2.1];simp
    obtain⟨ph,py,A',cp',ns'⟩:=p'
    simp only at hpl
    subst hpl
    obtain⟨e0_,e1_,e2_,e3_,e4_,e5_,e6_,e7_,e8_⟩:=(show wr.cell? ⟨w.heap.size,0,U⟩=M (V I c.nodes)/\wr.cell? ⟨w.heap.size,1,U⟩=M (V I c.blocks)/\wr.cell? ⟨w.heap.size,2,U⟩=M (V I c.tokens)/\wr.cell? ⟨w.heap.size,3,U⟩=M (V I c.sets)/\wr.cell? ⟨w.heap.size,4,U⟩=M (V I c.ways)/\wr.cell? ⟨w.heap.size,5,U⟩=M (V I c.cap)/\wr.cell? ⟨w.heap.size,6,U⟩=M (V I c.wait)/\wr.cell? ⟨w.heap.size,7,U⟩=M (V I c.tries)/\wr.cell? ⟨w.heap.size,8,U⟩=M (V I c.policy) from⟨cw r4 0,cw r4 1,cw r4 2,cw r4 3,cw r4 4,cw r4 5,cw r4 6,cw r4 7,cw r4 8⟩)
    have RX:=AS (qA r1 (qA r2 (qA r3 (qA r4 r5))))
    have hlg0:=eB r1.1
    have NCC:=AS (NN.out ns'.length hcc wr)
    clear r1 r2 r3 r4 r5
    go_wp2_with fail
    refine NCC.out.mono ?_
    rintro e w5 ⟨b5,rfl,hN5,hb5⟩
    have H5:=AS hb5
    have N5:=AS hN5
    have k12:=cw (kA RX.out.1.1 hb5) 11 (v:=J A' ns'.length cp')
    have OA:=AS (show OwnE ptrE (J A' ns'.length cp') (ns'.map M) (w5.alloc (O #[bA (M ⟨b5,0,U⟩)] 94)) from RX.out.1.2.2.1.ks (pB (fun _=>False) (eA H5.out _)) (fun _ _=>id))
    have RA:=AS (show RowE ptrE (w5.alloc (O #[bA (M ⟨b5,0,U⟩)] 94)) (M ⟨w5.heap.size,0,U⟩) [M b5] from rowE_one (E:=ptrE) (x:=M b5) (nA w5 (O #[bA (M ⟨b5,0,U⟩)] 94)))
    clear hb5 hN5 e0_ e1_ e2_ e3_ e4_ e5_ e6_ e7_ e8_
    go_wp2_with (first | (at_builtin;refine list_appE (E:=ptrE) (xs:=ns'.map M) (ys:=[M b5]) xB _ _ rfl rfl rfl rfl (by exact OA.out) (by exact RA.out) (by show _ * 8≤_;simp;omega) ?_;intro v1 w3 hO hK hf;have hk3:KS (fun x=>x∈foot (J A' ns'.length cp')) (w5.alloc (O #[bA (M ⟨b5,0,U⟩)] 94)) w3:=KS.keeps hK;have hf4:∀ x∈foot (J A' ns'.length cp'),K' x=1:=RX.out.1.2.2.2.1;have hg0f:g0∉foot (J A' ns'.length cp'):=(fun e=>by have h1:=hf4 g0 e;have h2:=RX.out.1.2.1;omega);obtain⟨A3,n3,k3,rfl⟩:∃ A n c,v1=J A n c:=(by obtain⟨A,c,h,_⟩:=OwnE.row hO;exact⟨_,_,_,h⟩);have hn3:n3=ns'.length+1:=(by obtain⟨A,c,h,_⟩:=OwnE.row hO;injection h with h1 h2 h3;simpa using h2);subst hn3;have Y1:=AS (hk3.at_ (lA (kA RX.out.1.1 H5.out) (O #[bA (M ⟨b5,0,U⟩)] 94)) hg0f);have y2:w3.frozen? ⟨g0,11,U⟩=false:=jA Y1.out 11;have y3:w3.cell? ⟨g0,11,U⟩=M (J A' ns'.length cp'):=cw Y1.out 11;have FI:=AS (WldK.push (A':=A3) (cp':=k3) (n:=S.Node.new ns'.length) (G:=fun x=>wr.heap.size≤x) RX.out.1 (eA H5.out (O #[bA (M ⟨b5,0,U⟩)] 94)) (N5.out.keep (pB (fun _=>False) (eA (fA _ _) _)) (fun x _ hF=>⟨hF,id⟩)) (fun x h=>h) (by show ns'.length < 64;omega) hO hk3 (fun x hx=>by rcases hf with e | e;exact .inl (by rw[e] at hx;exact hx);exact .inr (by rw[e] at hx;simp only[tA] at hx;omega)));clear hO hK hf hk3 hf4 hg0f) | fail)
    go_roundw
    case rel =>
     obtain⟨x1,x2,x3,x4,x5⟩:=RX.out
     obtain⟨K2,m1,m2,m3⟩:=FI.out
     have hcl:=eB x4
     refine⟨ns'.length+1,by go_num,vB,⟨⟨(⟨ph,py,A3,k3,ns' ++ [b5]⟩:WPt),K2,?_,?_,?_,?_,?_⟩⟩⟩
     ·have e1:(List.range (ns'.length+1)).map (fun(i:Nat)=>S.Node.new i)=(List.range ns'.length).map (fun(i:Nat)=>S.Node.new i) ++ [S.Node.new ns'.length]:=by rw[List.range_succ,List.map_append];rfl
      rw[e1];exact m2
     ·intro x hx h100
      by_cases hl:x < wr.heap.size
      ·rw[m1 x hl] at h100;exact x2 x hl h100
      ·have:=x5.size;omega
     ·exact(m1 _ hcl).trans x3
     ·exact m3.at_ x4 (by show ¬ K' _≤1;omega)
     ·refine x5.trans (m3.toBelow (fun y hy=>?_) x5.size)
      by_cases hl:y < wr.heap.size
      ·exact x2 y hl (by have hy':K' y≤1:=hy;omega)
      ·have:=x5.size;omega
    case measure=>simp[intOf];omega
   ·have hin:(i:Int)=c.nodes:=vB
    have RX:=AS (qA r1 (qA r2 r5))
    have HIN:=AS hin
    clear r1 r2 r3 r4 r5 hin
    go_wp2
    refine yA (v:=.tuple #[bA (M ⟨g0,0,U⟩),V I 0]) (by simp[results,Tryz.results8,go_sem]) rfl ?_
    obtain⟨r1,r2,r5⟩:=RX.out
    refine⟨g0,rfl,⟨p',K',?_,r2⟩,r5⟩
    have e1:S.World.new c=(⟨0,0,(List.range i).map (fun(i:Nat)=>S.Node.new i),Home.new c,[]⟩:S.World):=by
     have:=HIN.out
     unfold S.World.new
     rw[show c.nodes.toNat=i by omega]
    rw[e1];exact r1
end Go.Proofs.YtiebppkhaiofeaaGreat.K
