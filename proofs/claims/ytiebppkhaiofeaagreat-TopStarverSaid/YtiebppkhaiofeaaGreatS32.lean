/- Part of the proof of TopStarver: what functions of the program do. -/
import Derived.Test.YtiebppkhaiofeaaGreatS31
import Derived.Test.YtiebppkhaiofeaaGreatS17
set_option maxHeartbeats 4000000
set_option maxRecDepth 100000
set_option linter.unusedVariables false
set_option linter.unusedSimpArgs false
namespace Go.Proofs.YtiebppkhaiofeaaGreat.K
open Go.RowKit Go.Maps Go.Shelf Go.MapKept
open Go.WideElems (Fit rd rg rg_of)
open Go.WideShapes (sorted_perm)
theorem nodup_le:∀ (n:Nat) (l:List Nat),l.Nodup->(∀ x∈l,x < n)->l.length≤n
 | 0,l,_,h=>by
  cases l with
  | nil=>simp
  | cons a t=>exact absurd (h a (by simp)) (by omega)
 | n+1,l,hn,h=>by
  have h1:=nodup_le n (l.erase n) (hn.erase n) (fun x hx=>by
   have h2:=h x (List.mem_of_mem_erase hx)
   have h3:x≠n:=fun e=>by subst e;exact(List.Nodup.not_mem_erase hn) hx
   omega)
  by_cases hm:n∈l
  ·rw[List.length_erase_of_mem hm] at h1;omega
  ·rw[List.erase_of_not_mem hm] at h1;omega
def R0:Value->Option (DataW Unit×List MemPlace):=fun _=>some (.nil,[])
def keyI (x:MapEntry):Int:=match x.key with | .int _ k=>k | _=>0
theorem im_rd {es:Array MapEntry} {ck:Nat} {f:Int->Option Value} (hI:IM es ck f) (hw:∀ k,(f k).isSome->0≤k/\k < 64) {x:MapEntry} (hx:x∈es.toList):rd Tryz.prog 3 R0 x=some (.int .i64 (keyI x),.nil)/\0≤keyI x/\keyI x < 64/\f (keyI x)=some x.val/\x.key=.int .i64 (keyI x):=by
 obtain⟨k,hk,hf⟩:=hI.2.1 x hx
 have e:keyI x=k:=by simp[keyI,hk]
 have h2:=hw k (by rw[hf];rfl)
 rw[e]
 refine⟨?_,h2.1,h2.2,hf,hk⟩
 have hwf:(Lit.int .i64 k).wf=true:=by
  have m1:IntKind.i64.min = -9223372036854775808:=by decide
  have m2:IntKind.i64.max=9223372036854775807:=by decide
  simp only[Lit.wf,m1,m2,Bool.and_eq_true,decide_eq_true_eq]
  omega
 simp[rd,hk,keyOf_int_mk under3 hwf,R0]
theorem im_nodup {es:Array MapEntry} {ck:Nat} {f:Int->Option Value} (hI:IM es ck f) (hw:∀ k,(f k).isSome->0≤k/\k < 64):(es.toList.map keyI).Nodup:=by
 have hst:=hI.1
 rw[stamped_iff] at hst
 rw[List.Nodup,List.pairwise_map]
 refine hst.2.2.imp_of_mem fun {a b} ha hb h e=>h ?_
 rw[(im_rd hI hw ha).2.2.2.2,(im_rd hI hw hb).2.2.2.2,e]
theorem im_size {es:Array MapEntry} {ck:Nat} {f:Int->Option Value} (hI:IM es ck f) (hw:∀ k,(f k).isSome->0≤k/\k < 64):es.size≤64:=by
 have h1:((es.toList.map keyI).map Int.toNat).Nodup:=by
  rw[List.Nodup,List.pairwise_map]
  refine(im_nodup hI hw).imp_of_mem fun {a b} ha hb h e=>h ?_
  obtain⟨x,hx,rfl⟩:=List.mem_map.1 ha
  obtain⟨y,hy,rfl⟩:=List.mem_map.1 hb
  have:=(im_rd hI hw hx).2.1
  have:=(im_rd hI hw hy).2.1
  omega
 have h2:=nodup_le 64 _ h1 (fun x hx=>by
  obtain⟨y,hy,rfl⟩:=List.mem_map.1 hx
  obtain⟨z,hz,rfl⟩:=List.mem_map.1 hy
  have:=(im_rd hI hw hz).2.1
  have:=(im_rd hI hw hz).2.2.1
  omega)
 simpa using h2
theorem im_owns {es:Array MapEntry} {ck:Nat} {f:Int->Option Value} {b:Nat} {w:Go.World} (hb:w.heap[b]?=some (.map es ck)) (hI:IM es ck f) (hw:∀ k,(f k).isSome->0≤k/\k < 64):w.ownsMap Tryz.prog 3 R0 b es.size (.map ((es.toList.map (rg Tryz.prog 3 R0)).foldr DataW.insert [])) :=
 ⟨es,ck,hb,⟨by have:=im_size hI hw;unfold maxLen;omega,hI.1,fun x hx=>⟨_,(im_rd hI hw hx).1⟩⟩,Nat.le_refl _,rfl⟩
theorem im_keys {es:Array MapEntry} {ck:Nat} {f:Int->Option Value} (hI:IM es ck f) (hw:∀ k,(f k).isSome->0≤k/\k < 64):(intKeys (DataW.map (H:=Unit) ((es.toList.map (rg Tryz.prog 3 R0)).foldr DataW.insert []))).Perm (es.toList.map keyI):=by
 refine((sorted_perm _).map _).trans ?_
 rw[List.map_map]
 refine List.Perm.of_eq (List.map_congr_left fun x hx=>?_)
 have:=rg_of (im_rd hI hw hx).1
 simp[this,Go.intOf]
theorem im_mem {es:Array MapEntry} {ck:Nat} {f:Int->Option Value} (hI:IM es ck f) (hw:∀ k,(f k).isSome->0≤k/\k < 64) (k:Int):k∈es.toList.map keyI↔(f k).isSome:=by
 constructor
 ·intro h
  obtain⟨x,hx,rfl⟩:=List.mem_map.1 h
  rw[(im_rd hI hw hx).2.2.2.1];rfl
 ·intro h
  obtain⟨v,hv⟩:=Option.isSome_iff_exists.1 h
  obtain⟨x,hx,hk⟩:=hI.2.2 k v hv
  exact List.mem_map.2 ⟨x,hx,by simp[keyI,hk]⟩
end Go.Proofs.YtiebppkhaiofeaaGreat.K
namespace Go.Proofs.YtiebppkhaiofeaaGreat.K
open Go.RowKit Go.Proofs.YtiebppkhaiofeaaGreatW.PrintWords Go.Proofs.YtiebppkhaiofeaaGreat.S
attribute [local go_sem] World.cell?_alloc_some
open Go.ChangeMaps Go.MapKept
def TabL (t:Table) (w:Go.World) (e:Ending) (w':Go.World):Prop:=∃ (A:Option Addr) (n cp:Nat) (L:List Int),e=.returned (.slice A n cp)/\L.Nodup/\(∀ k,k∈L↔(t.act k).isSome)/\OwnE actE (.slice A n cp) (L.map (Table.actOf t)) w'/\(∀ x∈foot (.slice A n cp),w.heap.size≤x)/\Below w.heap.size w w'
theorem tabList_any {t:Table} {b:Nat} {F:Set_} {w:Go.World} (hT:TabAt t b F w) (hw:∀ k,(t.act k).isSome->0≤k/\k < 64):Calls Tryz.prog 68 #[.pointer (some ⟨b,0,none⟩)] w (TabL t w):=by
 obtain⟨ba,bo,ea,ca,eo,co,fa,fo,h1,h2,-,h3,-,-,-,-,-,-,-,h4,-⟩:=hT
 have hw':∀ k,(fa k).isSome->0≤k/\k < 64:=fun k hk=>hw k (by rw[h4] at hk;simpa using hk)
 have S1:=AS (sorted100_any ba ea.size _ R0 w (im_owns h2 h3 hw') (by have:=im_size h3 hw';have e:=(im_keys h3 hw').length_eq;simp[Maps.size,intKeys] at e ⊢;unfold maxLen;omega) (by have:=im_size h3 hw';have e:=(im_keys h3 hw').length_eq;simp[Maps.size,intKeys] at e ⊢;omega))
 have MM:=AS (show ∀ ss:List Int,ss.Perm (intKeys (DataW.map (H:=Unit) ((ea.toList.map (Go.WideElems.rg Tryz.prog 3 R0)).foldr DataW.insert [])))->(ss.mergeSort fun x y=>decide (x≤y)).Nodup/\(∀ k,k∈(ss.mergeSort fun x y=>decide (x≤y))↔(t.act k).isSome)/\(ss.mergeSort fun x y=>decide (x≤y)).length≤64 from fun ss h=>by
  have p:=(List.mergeSort_perm ss fun x y=>decide (x≤y)).trans (h.trans (im_keys h3 hw'))
  refine⟨p.nodup_iff.2 (im_nodup h3 hw'),fun k=>by rw[p.mem_iff,im_mem h3 hw',h4];simp,?_⟩
  rw[p.length_eq];simpa using im_size h3 hw')
 have LK:=AS (show ∀ x,Below w.heap.size w x->∀ k,(Instr.lookup 43 (.map (some ba)) (.int .i64 k) false).run Tryz.prog x=.ok (.agg #[.int .i64 (Table.actOf t k).block,.int .i64 (Table.actOf t k).node,.int .i64 (Table.actOf t k).seq]) x from fun x hx k=>by have:=h3.look (blk_below h2 hx) under43 under3 (zero55 _) k;rw[getD_act h4 k] at this;simp only[actV] at this;exact this)
 have KEEP:=AS (show ∀ x,Below w.heap.size w x->x.cell? ⟨b,0,none⟩=some (.map (some ba)) from fun x hx=>by have h11:=blk_below h1 hx;exact(cw h11 0))
 have e0_:=KEEP.out w (Below.refl _ _)
 clear h1 h2 h3 h4 hw hw'
 go_enter Tryz.func68,Tryz.ntmps68
 go_wp2_with fail
 refine(keys101_any (some ba) w).mono ?_
 rintro e wk ⟨rfl,rfl⟩
 go_wp2_with fail
 refine S1.out.mono ?_
 rintro e w1 ⟨v,ss,rfl,hp,hrow,-,hb⟩
 have M:=MM.out ss hp
 have B1:=AS ((below_alloc (Below.refl w.heap.size w) (.cells #[.map (some ba)] 43)).trans (hb.mono (by simp)))
 have hO:OwnE intE v (ss.mergeSort fun x y=>decide (x≤y)) w1:=by
  show World.ownsRow _ _ _ _ _ _ _
  rw[flat_int,List.length_mergeSort]
  exact⟨hrow.1,hrow.2.imp id (fun⟨g,cap,cur,q1,q2,q3⟩=>⟨g,cap,cur,q1,Nat.zero_le _,q3⟩)⟩
 have hlen:=M.2.2
 have FIN:=AS (show ∀ (A':Option Addr) (n' cp':Nat) (w':Go.World),OwnE actE (.slice A' n' cp') ((ss.mergeSort fun x y=>decide (x≤y)).map (Table.actOf t)) w'->(∀ x∈foot (.slice A' n' cp'),w1.heap.size≤x)->Below w1.heap.size w1 w'->TabL t w (.returned (.slice A' n' cp')) w' from fun A' n' cp' w' k1 k2 k3=>⟨A',n',cp',_,rfl,M.1,M.2.1,k1,fun x hx=>Nat.le_trans B1.out.size (k2 x hx),B1.out.trans (k3.mono B1.out.size)⟩)
 clear M hp hrow hb e0_ MM S1
 generalize (ss.mergeSort fun x y=>decide (x≤y))=xs at *
 obtain⟨A,cp,rfl,-⟩:=hO.row
 rcases hO.cases with ⟨e,hx⟩ | ⟨g,cap,cur,e,hg,hc1,hc2,-,-⟩
 ·subst hx
  simp at e
  obtain⟨rfl,rfl⟩:=e
  clear hO
  go_wp2
  refine wp_loop_rounds 1 ?_
  rw[rounds_succ]
  go_wp2
  go_ret
  exact FIN.out _ _ _ _ (OwnE.nil _) (by simp[foot_nil]) (Below.refl _ _)
 ·simp at e
  obtain⟨rfl,rfl⟩:=e
  have OO:=AS hO
  clear hO hg
  go_wp2
  go_loopw [3,5,13] (fun v3 v5 v12 wr=>∃ (i:Nat) (A':Option Addr) (n' cp':Nat),v3=.slice A' n' cp'/\v12=.int .i64 i/\i≤xs.length/\Aside0 (OwnE actE (.slice A' n' cp') ((xs.take i).map (Table.actOf t)) wr/\Below w1.heap.size w1 wr/\(∀ x∈foot (.slice A' n' cp'),w1.heap.size≤x))) (fun _ _ v12 _=>xs.length+1 - (intOf v12).toNat)
  case atStart=>exact⟨0,none,0,0,rfl,rfl,Nat.zero_le _,⟨OwnE.nil _,Below.refl _ _,by simp[foot_nil]⟩⟩
  case round =>
   obtain⟨i,A0,n0,c0,rfl,rfl,hi,R⟩:=hrel
   by_cases c1:i < xs.length
   ·have c2:wr.cell? ⟨g,i,none⟩=some (.int .i64 (xs.getD i 0)):=int_cells (OO.out.ks (KS.below (fun _=>False) R.out.2.1) (fun _ _=>id)) c1
    have TK:=AS (show xs.take (i+1)=xs.take i ++ [xs.getD i 0] by rw[List.take_add_one];simp[List.getD,c1])
    generalize xs.getD i 0=x at *
    have BW:=AS (B1.out.trans (R.out.2.1.mono B1.out.size))
    have lk:=LK.out wr BW.out x
    have e0_:=KEEP.out wr BW.out
    have X:=AS (blk_new wr (.cells (actC (Table.actOf t x)).toArray 55))
    have RW:=AS (rowE_one (E:=actE) (x:=Table.actOf t x) X.out)
    have O:=AS (R.out.1.keep (Keeps.below [] (below_alloc (Below.refl _ wr) (.cells (actC (Table.actOf t x)).toArray 55))) (by simp))
    have B:=AS (below_alloc R.out.2.1 (.cells (actC (Table.actOf t x)).toArray 55))
    have FT:=AS R.out.2.2
    have HL:=AS (show(xs.take i).length≤64 by rw[List.length_take];omega)
    clear R
    go_wp2_with (first | (at_builtin;refine list_appE (E:=actE) (xs:=(xs.take i).map (Table.actOf t)) (ys:=[Table.actOf t x]) (by kernel_rfl) _ _ rfl rfl rfl rfl (by exact O.out) (by exact RW.out) (by have:=HL.out;show _ * 24≤_;simp only[List.length_map,List.length_singleton];omega) ?_;intro v1 w3 hO hK hf;obtain⟨A1,n1,k1,rfl⟩:∃ A n c,v1=.slice A n c:=(by obtain⟨A,c,h,_⟩:=OwnE.row hO;exact⟨_,_,_,h⟩);have O1:=AS hO;have K1:=AS hK;have F1:=AS hf;clear hO hK hf) | go_in)
    go_roundw
    case rel =>
     refine⟨i+1,_,_,_,rfl,by go_num,by omega,⟨?_,?_,?_⟩⟩
     ·rw[TK.out,List.map_append]
      exact O1.out
     ·exact B.out.trans (K1.out.toBelow FT.out (by have:=B.out.size;simpa using this))
     ·intro y hy
      rcases F1.out with e | e
      ·rw[e] at hy;exact FT.out y hy
      ·rw[e] at hy;have h2:=B.out.size;simp at hy h2;omega
    case measure=>simp[intOf];omega
   ·obtain rfl:i=xs.length:=by omega
    have RR:=AS R.out
    clear R
    go_wp2
    go_ret
    exact FIN.out _ _ _ _ (by have:=RR.out.1;rwa [List.take_length] at this) RR.out.2.2 RR.out.2.1
def cv (x:Go.World) (g i:Nat):Value:=(x.cell? ⟨g,i,none⟩).getD (.bool false)
theorem cv_eq {x:Go.World} {g:Nat} {T:TypeId} {arr:Array Value} (h:x.heap[g]?=some (.cells arr T (0,0))) {i:Nat} (hi:i < arr.size):x.cell? ⟨g,i,none⟩=some (cv x g i):=by
 unfold cv
 rw[blk_cell h i,Array.getElem?_eq_getElem hi];rfl
def CHG (g:Nat) (T:TypeId) (n:Nat) (A F:Go.World):Prop:=KS (fun y=>y=g) A F/\∃ arr,F.heap[g]?=some (.cells arr T (0,0))/\arr.size=n
theorem CHG.refl {g:Nat} {T:TypeId} {n:Nat} {A:Go.World} {arr:Array Value} (h:A.heap[g]?=some (.cells arr T (0,0))) (hn:arr.size=n):CHG g T n A A:=⟨KS.refl _ _,arr,h,hn⟩
theorem CHG.drew {g:Nat} {T:TypeId} {n:Nat} {A F:Go.World} (h:CHG g T n A F):CHG g T n A F.drew:=⟨h.1.drew,h.2⟩
theorem CHG.alloc {g:Nat} {T:TypeId} {n:Nat} {A F:Go.World} (h:CHG g T n A F) (o:Obj):CHG g T n A (F.alloc o):=⟨h.1.alloc o,h.2.imp fun arr k=>⟨blk_alloc k.1 o,k.2⟩⟩
theorem CHG.set {g:Nat} {T:TypeId} {n:Nat} {A F:Go.World} (h:CHG g T n A F) (i:Nat) (u:Value):CHG g T n A (F.setCell ⟨g,i,none⟩ u):=by
 obtain⟨h1,arr,h2,h3⟩:=h
 exact⟨h1.set1 i u,_,blk_set h2 i u,by simpa using h3⟩
theorem CHG.lays {g:Nat} {T:TypeId} {n:Nat} {P:Set_->Go.World->Prop} {A X F:Go.World} (hl:Lays P X F) (h:CHG g T n A X):CHG g T n A F:=⟨h.1.andBelow hl.2,h.2.imp fun arr k=>⟨blk_below k.1 hl.2,k.2⟩⟩
theorem blk_as {F:Go.World} {g:Nat} {T:TypeId} {arr arr':Array Value} (h:F.heap[g]?=some (.cells arr T (0,0))) (e:arr=arr'):F.heap[g]?=some (.cells arr' T (0,0)):=e ▸ h
theorem Lays.ks {G:Set_} {P:Set_->Go.World->Prop} {A X F:Go.World} (hl:Lays P X F) (h:KS G A X):KS G A F:=h.andBelow hl.2
theorem cacCopy_lays {c:Cfg} {s:Cache} {b:Nat} {F:Set_} {w X:Go.World} (h:CacAt c s b F w) (hb:Below w.heap.size w X):Calls Tryz.prog 78 #[.pointer (some ⟨b,0,none⟩)] X fun e w'=>∃ b,e=.returned (.pointer (some ⟨b,0,none⟩))/\Lays (CacAt c s b) X w' :=
 (cacCopy0_any (h.keep (KS.below (fun _=>False) hb) (fun x _ hF=>⟨hF,id⟩))).mono fun e w' ⟨b,he,h,hb⟩=>⟨b,he,h.keep (KS.refl (fun _=>False) _) (fun x hx hF=>⟨⟨hF,hx⟩,id⟩),hb⟩
theorem tabCopy_lays {s:Table} {b:Nat} {F:Set_} {w X:Go.World} (h:TabAt s b F w) (hb:Below w.heap.size w X):Calls Tryz.prog 79 #[.pointer (some ⟨b,0,none⟩)] X fun e w'=>∃ b,e=.returned (.pointer (some ⟨b,0,none⟩))/\Lays (TabAt s b) X w' :=
 (tabCopy_any (h.keep (KS.below (fun _=>False) hb) (fun x _ hF=>⟨hF,id⟩))).mono fun e w' ⟨b,he,h,hb⟩=>⟨b,he,h.keep (KS.refl (fun _=>False) _) (fun x hx hF=>⟨⟨hF,hx⟩,id⟩),hb⟩
theorem procCopy_lays {c:Cfg} {p:S.Proc} {b:Nat} {w X:Go.World} (h:ProcAt c p b w) (hb:Below w.heap.size w X):Calls Tryz.prog 80 #[.pointer (some ⟨b,0,none⟩)] X fun e w'=>∃ b,e=.returned (.pointer (some ⟨b,0,none⟩))/\Lays (fun F w=>ProcAt c p b w/\F b) X w' :=
 (procCopy_any (show ProcAt c p b X from blk_below h hb)).mono fun e w' ⟨b,he,h1,h2,h3⟩=>⟨b,he,⟨h2,h1,blk_lt h2⟩,h3⟩
theorem cloneB_lays {g:Int->Bool} {b:Nat} {w X:Go.World} (h:MapB g b w) (hb:Below w.heap.size w X):Calls Tryz.prog 81 #[.map (some b)] X fun e w'=>∃ b,e=.returned (.map (some b))/\Lays (fun F w=>MapB g b w/\F b) X w':=by
 obtain⟨es,ck,f,h1,h2,h3⟩:=h
 refine(cloneMB_any (blk_below h1 hb)).mono ?_
 rintro e w' ⟨he,rfl⟩
 exact⟨_,he,⟨⟨es,ck,f,blk_new X _,h2,h3⟩,Nat.le_refl _,by simp⟩,below_alloc (Below.refl _ _) _⟩
theorem cloneI_lays {g:Int->Int} {b:Nat} {w X:Go.World} (h:MapI g b w) (hb:Below w.heap.size w X):Calls Tryz.prog 82 #[.map (some b)] X fun e w'=>∃ b,e=.returned (.map (some b))/\Lays (fun F w=>MapI g b w/\F b) X w':=by
 obtain⟨es,ck,f,h1,h2,h3⟩:=h
 refine(cloneMI_any (blk_below h1 hb)).mono ?_
 rintro e w' ⟨he,rfl⟩
 exact⟨_,he,⟨⟨es,ck,f,blk_new X _,h2,h3⟩,Nat.le_refl _,by simp⟩,below_alloc (Below.refl _ _) _⟩
theorem nodeCopy_any {c:Cfg} {n:S.Node} {b:Nat} {F:Set_} {w:Go.World} (hN:NodeAt c n b F w):Calls Tryz.prog 53 #[.pointer (some ⟨b,0,none⟩)] w fun e w'=>∃ b',e=.returned (.pointer (some ⟨b',0,none⟩))/\NodeAt c n b' (nw w) w'/\Below w.heap.size w w':=by
 obtain⟨p,K,rfl,hK,-⟩:=hN
 have HLT:=AS hK.lt
 have CA:=AS (fun X hb=>cacCopy_lays (X:=X) hK.2.2.1.at_ hb)
 have TA:=AS (fun X hb=>tabCopy_lays (X:=X) hK.2.2.2.1 hb)
 have PA:=AS (fun X hb=>procCopy_lays (X:=X) hK.2.2.2.2.1 hb)
 have MB:=AS (fun X hb=>cloneB_lays (X:=X) hK.2.2.2.2.2.2.1 hb)
 have MI:=AS (fun X hb=>cloneI_lays (X:=X) hK.2.2.2.2.2.2.2.2.1 hb)
 have HB:=AS (show w.heap[p.b]?=some (.cells #[.int .i64 c.nodes,.int .i64 c.blocks,.int .i64 c.tokens,.int .i64 c.sets,.int .i64 c.ways,.int .i64 c.cap,.int .i64 c.wait,.int .i64 c.tries,.int .i64 c.policy,.int .i64 n.id,.pointer (some ⟨p.bc,0,none⟩),.pointer (some ⟨p.bt,0,none⟩),.pointer (some ⟨p.bp,0,none⟩),.map (some p.ba),.map (some p.bo)] 133 (0,0)) from hK.1)
 obtain⟨e0_,e1_,e2_,e3_,e4_,e5_,e6_,e7_,e8_,e9_,e10_,e11_,e12_,e13_,e14_⟩:=(show w.cell? ⟨p.b,0,none⟩=some (.int .i64 c.nodes)/\w.cell? ⟨p.b,1,none⟩=some (.int .i64 c.blocks)/\w.cell? ⟨p.b,2,none⟩=some (.int .i64 c.tokens)/\w.cell? ⟨p.b,3,none⟩=some (.int .i64 c.sets)/\w.cell? ⟨p.b,4,none⟩=some (.int .i64 c.ways)/\w.cell? ⟨p.b,5,none⟩=some (.int .i64 c.cap)/\w.cell? ⟨p.b,6,none⟩=some (.int .i64 c.wait)/\w.cell? ⟨p.b,7,none⟩=some (.int .i64 c.tries)/\w.cell? ⟨p.b,8,none⟩=some (.int .i64 c.policy)/\w.cell? ⟨p.b,9,none⟩=some (.int .i64 n.id)/\w.cell? ⟨p.b,10,none⟩=some (.pointer (some ⟨p.bc,0,none⟩))/\w.cell? ⟨p.b,11,none⟩=some (.pointer (some ⟨p.bt,0,none⟩))/\w.cell? ⟨p.b,12,none⟩=some (.pointer (some ⟨p.bp,0,none⟩))/\w.cell? ⟨p.b,13,none⟩=some (.map (some p.ba))/\w.cell? ⟨p.b,14,none⟩=some (.map (some p.bo)) from⟨cw HB.out 0,cw HB.out 1,cw HB.out 2,cw HB.out 3,cw HB.out 4,cw HB.out 5,cw HB.out 6,cw HB.out 7,cw HB.out 8,cw HB.out 9,cw HB.out 10,cw HB.out 11,cw HB.out 12,cw HB.out 13,cw HB.out 14⟩)
 clear hK
 go_enter Tryz.func53,Tryz.ntmps53
 go_upto_region 2 with fail
 have BX:=AS (blk_new w (.cells #[.int .i64 c.nodes,.int .i64 c.blocks,.int .i64 c.tokens,.int .i64 c.sets,.int .i64 c.ways,.int .i64 c.cap,.int .i64 c.wait,.int .i64 c.tries,.int .i64 c.policy,.int .i64 n.id,.pointer (some ⟨p.bc,0,none⟩),.pointer (some ⟨p.bt,0,none⟩),.pointer (some ⟨p.bp,0,none⟩),.map (some p.ba),.map (some p.bo)] 133))
 have BE:=AS (below_alloc (Below.refl w.heap.size w) (.cells #[.int .i64 c.nodes,.int .i64 c.blocks,.int .i64 c.tokens,.int .i64 c.sets,.int .i64 c.ways,.int .i64 c.cap,.int .i64 c.wait,.int .i64 c.tries,.int .i64 c.policy,.int .i64 n.id,.pointer (some ⟨p.bc,0,none⟩),.pointer (some ⟨p.bt,0,none⟩),.pointer (some ⟨p.bp,0,none⟩),.map (some p.ba),.map (some p.bo)] 133))
 have SZ:=AS (sz_alloc w (.cells #[.int .i64 c.nodes,.int .i64 c.blocks,.int .i64 c.tokens,.int .i64 c.sets,.int .i64 c.ways,.int .i64 c.cap,.int .i64 c.wait,.int .i64 c.tries,.int .i64 c.policy,.int .i64 n.id,.pointer (some ⟨p.bc,0,none⟩),.pointer (some ⟨p.bt,0,none⟩),.pointer (some ⟨p.bp,0,none⟩),.map (some p.ba),.map (some p.bo)] 133))
 generalize w.alloc (.cells #[.int .i64 c.nodes,.int .i64 c.blocks,.int .i64 c.tokens,.int .i64 c.sets,.int .i64 c.ways,.int .i64 c.cap,.int .i64 c.wait,.int .i64 c.tries,.int .i64 c.policy,.int .i64 n.id,.pointer (some ⟨p.bc,0,none⟩),.pointer (some ⟨p.bt,0,none⟩),.pointer (some ⟨p.bp,0,none⟩),.map (some p.ba),.map (some p.bo)] 133)=W at BX BE SZ ⊢
 have PB:=AS (blk_below HB.out BE.out)
 have BW:=AS (show ∀ x,CHG w.heap.size 133 15 W x->Below w.heap.size w x from fun x hx=>BE.out.trans (hx.1.toBelow (B:=w.heap.size) (fun y hy=>by have hy':y=w.heap.size:=hy;omega) (by have:=SZ.out;omega)))
 have CH0:=AS (show CHG w.heap.size 133 15 W W from CHG.refl BX.out rfl)
 clear e0_ e1_ e2_ e3_ e4_ e5_ e6_ e7_ e8_ e9_ e10_ e11_ e12_ e13_ e14_
 have KEEP:=AS (show ∀ x,CHG w.heap.size 133 15 W x->(x.cell? ⟨p.b,10,none⟩=some (.pointer (some ⟨p.bc,0,none⟩))/\x.cell? ⟨p.b,11,none⟩=some (.pointer (some ⟨p.bt,0,none⟩))/\x.cell? ⟨p.b,12,none⟩=some (.pointer (some ⟨p.bp,0,none⟩))/\x.cell? ⟨w.heap.size,10,none⟩=some (cv x w.heap.size 10)/\x.cell? ⟨w.heap.size,11,none⟩=some (cv x w.heap.size 11)/\x.cell? ⟨w.heap.size,12,none⟩=some (cv x w.heap.size 12)/\x.frozen? ⟨w.heap.size,10,none⟩=false/\x.frozen? ⟨w.heap.size,11,none⟩=false/\x.frozen? ⟨w.heap.size,12,none⟩=false) from fun x hx=>by
  obtain⟨hk,arr,ha,hn⟩:=hx
  have hp:=hk.at_ PB.out (fun e=>Nat.lt_irrefl _ (e ▸ HLT.out))
  exact⟨cw hp 10,cw hp 11,cw hp 12,cv_eq ha (by omega),cv_eq ha (by omega),cv_eq ha (by omega),blk_frozen ha 10,blk_frozen ha 11,blk_frozen ha 12⟩)
 have KS0:=KEEP.out W CH0.out
 obtain⟨e0_,e1_,e2_,e3_,e4_,e5_,e6_,e7_,e8_⟩:=KS0
 go_cut [] (fun wx=>∃ bc1 bt1 bp1 l1 u1 l2 u2,wx.heap[w.heap.size]?=some (.cells #[.int .i64 c.nodes,.int .i64 c.blocks,.int .i64 c.tokens,.int .i64 c.sets,.int .i64 c.ways,.int .i64 c.cap,.int .i64 c.wait,.int .i64 c.tries,.int .i64 c.policy,.int .i64 n.id,.pointer (some ⟨bc1,0,none⟩),.pointer (some ⟨bt1,0,none⟩),.pointer (some ⟨bp1,0,none⟩),.map (some p.ba),.map (some p.bo)] 133 (0,0))/\CacAt c n.lines bc1 (iv l1 u1) wx/\TabAt n.know bt1 (iv l2 u2) wx/\ProcAt c n.cpu bp1 wx/\(w.heap.size < l1/\w.heap.size < l2/\w.heap.size < bp1/\u1≤wx.heap.size/\u2≤wx.heap.size/\bp1 < wx.heap.size/\(u1≤l2∨u2≤l1)/\(bp1 < l1∨u1≤bp1)/\(bp1 < l2∨u2≤bp1))/\Below w.heap.size w wx)
 case first =>
  go_region_held3 (fun x=>x.cell? ⟨p.b,10,none⟩=some (.pointer (some ⟨p.bc,0,none⟩))/\x.cell? ⟨p.b,11,none⟩=some (.pointer (some ⟨p.bt,0,none⟩))/\x.cell? ⟨p.b,12,none⟩=some (.pointer (some ⟨p.bp,0,none⟩))/\x.cell? ⟨w.heap.size,10,none⟩=some (cv x w.heap.size 10)/\x.cell? ⟨w.heap.size,11,none⟩=some (cv x w.heap.size 11)/\x.cell? ⟨w.heap.size,12,none⟩=some (cv x w.heap.size 12)/\x.frozen? ⟨w.heap.size,10,none⟩=false/\x.frozen? ⟨w.heap.size,11,none⟩=false/\x.frozen? ⟨w.heap.size,12,none⟩=false) ((refine KEEP.out _ ?_;(repeat (with_reducible first | exact CH0.out | refine CHG.set ?_ _ _ | refine CHG.alloc ?_ _ | refine CHG.drew ?_ | refine CHG.lays H5.out ?_ | refine CHG.lays H4.out ?_ | refine CHG.lays H3.out ?_ | refine CHG.lays H2.out ?_ | refine CHG.lays H1.out ?_)))) ((first | (go_at_call 78;refine(CA.out _ ?_).mono ?_;(focus (refine BW.out _ ?_;(repeat (with_reducible first | exact CH0.out | refine CHG.set ?_ _ _ | refine CHG.alloc ?_ _ | refine CHG.drew ?_ | refine CHG.lays H5.out ?_ | refine CHG.lays H4.out ?_ | refine CHG.lays H3.out ?_ | refine CHG.lays H2.out ?_ | refine CHG.lays H1.out ?_))));rintro e w1 ⟨bc1,rfl,hC⟩;have H1:=AS hC;clear hC) | (go_at_call 79;refine(TA.out _ ?_).mono ?_;(focus (refine BW.out _ ?_;(repeat (with_reducible first | exact CH0.out | refine CHG.set ?_ _ _ | refine CHG.alloc ?_ _ | refine CHG.drew ?_ | refine CHG.lays H5.out ?_ | refine CHG.lays H4.out ?_ | refine CHG.lays H3.out ?_ | refine CHG.lays H2.out ?_ | refine CHG.lays H1.out ?_))));rintro e w2 ⟨bt1,rfl,hC⟩;have H2:=AS hC;clear hC) | (go_at_call 80;refine(PA.out _ ?_).mono ?_;(focus (refine BW.out _ ?_;(repeat (with_reducible first | exact CH0.out | refine CHG.set ?_ _ _ | refine CHG.alloc ?_ _ | refine CHG.drew ?_ | refine CHG.lays H5.out ?_ | refine CHG.lays H4.out ?_ | refine CHG.lays H3.out ?_ | refine CHG.lays H2.out ?_ | refine CHG.lays H1.out ?_))));rintro e w3 ⟨bp1,rfl,hC⟩;have H3:=AS hC;clear hC)))
  all_goals
   go_wp2_with fail
   go_meet
   have s0:=SZ.out
   have s1:=H1.out.size
   have s2:=H2.out.size
   have s3:=H3.out.size
   have s4:=H3.out.1.2
   refine⟨bc1,bt1,bp1,_,_,_,_,?_,H1.out.1.keep (G:=fun y=>y=w.heap.size) ?_ (fun x _ hF=>⟨hF,fun e=>?_⟩),H2.out.1.keep (G:=fun y=>y=w.heap.size) ?_ (fun x _ hF=>⟨hF,fun e=>?_⟩),KS.at_ (F:=fun y=>y=w.heap.size) ?_ H3.out.1.1 (fun e=>?_),?_,BW.out _ ?_⟩
   ·apply blk_as
    ·(repeat (with_reducible first | exact BX.out | apply blk_set | apply blk_alloc | apply blk_drew | apply Lays.blk H5.out | apply Lays.blk H4.out | apply Lays.blk H3.out | apply Lays.blk H2.out | apply Lays.blk H1.out))
    ·simp
   ·(repeat (with_reducible first | exact KS.refl _ _ | refine KS.set1 ?_ _ _ | apply KS.alloc | apply KS.drew | refine Lays.ks H5.out ?_ | refine Lays.ks H4.out ?_ | refine Lays.ks H3.out ?_ | refine Lays.ks H2.out ?_ | refine Lays.ks H1.out ?_))
   ·have h1:=hF.1
    have e':x=w.heap.size:=e
    simp only[iv,sz_alloc,sz_drew,sz_set] at s0 s1 s2 s3 s4 h1 ⊢;omega
   ·(repeat (with_reducible first | exact KS.refl _ _ | refine KS.set1 ?_ _ _ | apply KS.alloc | apply KS.drew | refine Lays.ks H5.out ?_ | refine Lays.ks H4.out ?_ | refine Lays.ks H3.out ?_ | refine Lays.ks H2.out ?_ | refine Lays.ks H1.out ?_))
   ·have h1:=hF.1
    have e':x=w.heap.size:=e
    simp only[iv,sz_alloc,sz_drew,sz_set] at s0 s1 s2 s3 s4 h1 ⊢;omega
   ·(repeat (with_reducible first | exact KS.refl _ _ | refine KS.set1 ?_ _ _ | apply KS.alloc | apply KS.drew | refine Lays.ks H5.out ?_ | refine Lays.ks H4.out ?_ | refine Lays.ks H3.out ?_ | refine Lays.ks H2.out ?_ | refine Lays.ks H1.out ?_))
   ·have e':bp1=w.heap.size:=e
    simp only[iv,sz_alloc,sz_drew,sz_set] at s0 s1 s2 s3 s4 ⊢;omega
   ·simp only[iv,sz_alloc,sz_drew,sz_set] at s0 s1 s2 s3 s4 ⊢;omega
   ·(repeat (with_reducible first | exact CH0.out | refine CHG.set ?_ _ _ | refine CHG.alloc ?_ _ | refine CHG.drew ?_ | refine CHG.lays H5.out ?_ | refine CHG.lays H4.out ?_ | refine CHG.lays H3.out ?_ | refine CHG.lays H2.out ?_ | refine CHG.lays H1.out ?_))
 case rest =>
  obtain⟨bc1,bt1,bp1,l1,u1,l2,u2,hb0,hC0,hT0,hP0,hd0,hbe0⟩:=hcut
  have BX:=AS hb0
  have HC:=AS hC0
  have HT:=AS hT0
  have HP:=AS hP0
  have HD:=AS hd0
  have BE2:=AS hbe0
  have PB:=AS (blk_below HB.out hbe0)
  have BW:=AS (show ∀ x,CHG w.heap.size 133 15 wc x->Below w.heap.size w x from fun x hx=>BE2.out.trans (hx.1.toBelow (B:=w.heap.size) (fun y hy=>by have hy':y=w.heap.size:=hy;omega) BE2.out.size))
  have CH0:=AS (show CHG w.heap.size 133 15 wc wc from CHG.refl BX.out rfl)
  clear hb0 hC0 hT0 hP0 hd0 hbe0
  have KEEP2:=AS (show ∀ x,CHG w.heap.size 133 15 wc x->(x.cell? ⟨p.b,13,none⟩=some (.map (some p.ba))/\x.cell? ⟨p.b,14,none⟩=some (.map (some p.bo))/\x.cell? ⟨w.heap.size,13,none⟩=some (cv x w.heap.size 13)/\x.cell? ⟨w.heap.size,14,none⟩=some (cv x w.heap.size 14)/\x.frozen? ⟨w.heap.size,13,none⟩=false/\x.frozen? ⟨w.heap.size,14,none⟩=false) from fun x hx=>by
   obtain⟨hk,arr,ha,hn⟩:=hx
   have hp:=hk.at_ PB.out (fun e=>Nat.lt_irrefl _ (e ▸ HLT.out))
   exact⟨cw hp 13,cw hp 14,cv_eq ha (by omega),cv_eq ha (by omega),blk_frozen ha 13,blk_frozen ha 14⟩)
  have KS2:=KEEP2.out wc CH0.out
  clear e0_ e1_ e2_ e3_ e4_ e5_ e6_ e7_ e8_
  obtain⟨e0_,e1_,e2_,e3_,e4_,e5_⟩:=KS2
  go_upto_region 3 with fail
  go_region_held3 (fun x=>x.cell? ⟨p.b,13,none⟩=some (.map (some p.ba))/\x.cell? ⟨p.b,14,none⟩=some (.map (some p.bo))/\x.cell? ⟨w.heap.size,13,none⟩=some (cv x w.heap.size 13)/\x.cell? ⟨w.heap.size,14,none⟩=some (cv x w.heap.size 14)/\x.frozen? ⟨w.heap.size,13,none⟩=false/\x.frozen? ⟨w.heap.size,14,none⟩=false) ((refine KEEP2.out _ ?_;(repeat (with_reducible first | exact CH0.out | refine CHG.set ?_ _ _ | refine CHG.alloc ?_ _ | refine CHG.drew ?_ | refine CHG.lays H5.out ?_ | refine CHG.lays H4.out ?_ | refine CHG.lays H3.out ?_ | refine CHG.lays H2.out ?_ | refine CHG.lays H1.out ?_)))) ((first | (go_at_call 81;refine(MB.out _ ?_).mono ?_;(focus (refine BW.out _ ?_;(repeat (with_reducible first | exact CH0.out | refine CHG.set ?_ _ _ | refine CHG.alloc ?_ _ | refine CHG.drew ?_ | refine CHG.lays H5.out ?_ | refine CHG.lays H4.out ?_ | refine CHG.lays H3.out ?_ | refine CHG.lays H2.out ?_ | refine CHG.lays H1.out ?_))));rintro e w4 ⟨ba1,rfl,hC⟩;have H4:=AS hC;clear hC) | (go_at_call 82;refine(MI.out _ ?_).mono ?_;(focus (refine BW.out _ ?_;(repeat (with_reducible first | exact CH0.out | refine CHG.set ?_ _ _ | refine CHG.alloc ?_ _ | refine CHG.drew ?_ | refine CHG.lays H5.out ?_ | refine CHG.lays H4.out ?_ | refine CHG.lays H3.out ?_ | refine CHG.lays H2.out ?_ | refine CHG.lays H1.out ?_))));rintro e w5 ⟨bo1,rfl,hC⟩;have H5:=AS hC;clear hC)))
  all_goals
   go_wp2
   go_ret
   have s1:=H4.out.size
   have s2:=H5.out.size
   have s3:=H4.out.1.2
   have s4:=H5.out.1.2
   have hd:=HD.out
   refine⟨_,rfl,node_iv (bc:=bc1) (bt:=bt1) (bp:=bp1) (l1:=l1) (u1:=u1) (l2:=l2) (u2:=u2) (B:=w.heap.size) ?_ (HC.out.keep (G:=fun y=>y=w.heap.size) ?_ (fun x _ hF=>⟨hF,fun e=>?_⟩)) (HT.out.keep (G:=fun y=>y=w.heap.size) ?_ (fun x _ hF=>⟨hF,fun e=>?_⟩)) (KS.at_ (F:=fun y=>y=w.heap.size) ?_ HP.out (fun e=>?_)) (H4.out.1.1.keep (G:=fun y=>y=w.heap.size) ?_ (fun e=>?_)) (H5.out.1.1.keep (G:=fun y=>y=w.heap.size) ?_ (fun e=>?_)) ?_,BW.out _ ?_⟩
   ·apply blk_as
    ·(repeat (with_reducible first | exact BX.out | apply blk_set | apply blk_alloc | apply blk_drew | apply Lays.blk H5.out | apply Lays.blk H4.out | apply Lays.blk H3.out | apply Lays.blk H2.out | apply Lays.blk H1.out))
    ·simp
   ·(repeat (with_reducible first | exact KS.refl _ _ | refine KS.set1 ?_ _ _ | apply KS.alloc | apply KS.drew | refine Lays.ks H5.out ?_ | refine Lays.ks H4.out ?_ | refine Lays.ks H3.out ?_ | refine Lays.ks H2.out ?_ | refine Lays.ks H1.out ?_))
   ·have h1:=hF.1
    have e':x=w.heap.size:=e
    omega
   ·(repeat (with_reducible first | exact KS.refl _ _ | refine KS.set1 ?_ _ _ | apply KS.alloc | apply KS.drew | refine Lays.ks H5.out ?_ | refine Lays.ks H4.out ?_ | refine Lays.ks H3.out ?_ | refine Lays.ks H2.out ?_ | refine Lays.ks H1.out ?_))
   ·have h1:=hF.1
    have e':x=w.heap.size:=e
    omega
   ·(repeat (with_reducible first | exact KS.refl _ _ | refine KS.set1 ?_ _ _ | apply KS.alloc | apply KS.drew | refine Lays.ks H5.out ?_ | refine Lays.ks H4.out ?_ | refine Lays.ks H3.out ?_ | refine Lays.ks H2.out ?_ | refine Lays.ks H1.out ?_))
   ·have e':bp1=w.heap.size:=e
    omega
   ·(repeat (with_reducible first | exact KS.refl _ _ | refine KS.set1 ?_ _ _ | apply KS.alloc | apply KS.drew | refine Lays.ks H5.out ?_ | refine Lays.ks H4.out ?_ | refine Lays.ks H3.out ?_ | refine Lays.ks H2.out ?_ | refine Lays.ks H1.out ?_))
   ·have e':ba1=w.heap.size:=e
    have hs:=BE2.out.size
    simp only[iv,sz_alloc,sz_drew,sz_set] at s1 s2 s3 s4 ⊢;omega
   ·(repeat (with_reducible first | exact KS.refl _ _ | refine KS.set1 ?_ _ _ | apply KS.alloc | apply KS.drew | refine Lays.ks H5.out ?_ | refine Lays.ks H4.out ?_ | refine Lays.ks H3.out ?_ | refine Lays.ks H2.out ?_ | refine Lays.ks H1.out ?_))
   ·have e':bo1=w.heap.size:=e
    have hs:=BE2.out.size
    simp only[iv,sz_alloc,sz_drew,sz_set] at s1 s2 s3 s4 ⊢;omega
   ·simp only[iv,sz_alloc,sz_drew,sz_set] at s1 s2 s3 s4 ⊢;omega
   ·(repeat (with_reducible first | exact CH0.out | refine CHG.set ?_ _ _ | refine CHG.alloc ?_ _ | refine CHG.drew ?_ | refine CHG.lays H5.out ?_ | refine CHG.lays H4.out ?_ | refine CHG.lays H3.out ?_ | refine CHG.lays H2.out ?_ | refine CHG.lays H1.out ?_))
end Go.Proofs.YtiebppkhaiofeaaGreat.K
