/- Part of the proof of TopStarver: what functions of the program do. -/
import Derived.Test.YtiebppkhaiofeaaGreatS15
set_option maxHeartbeats 4000000
set_option maxRecDepth 100000
set_option linter.unusedVariables false
set_option linter.unusedSimpArgs false
namespace Go.Proofs.YtiebppkhaiofeaaGreat.S
open Go.RowKit (wrap64)
structure CInv (c:Cfg) (s:Cache):Prop where
 nodup:∀ k,(s.rows k).Nodup
 short:∀ k,((s.rows k).length:Int)≤c.ways
 own:∀ k,∀ x∈s.rows k,0≤x/\imod x c.sets=k
 line:∀ b,s.tok b≠b0->b∈s.row c b
theorem b0_count:b0.count=0:=rfl
theorem cinv_new {c:Cfg} (h:1≤c.ways):CInv c Cache.new :=
 ⟨fun _=>List.nodup_nil,fun _=>by show(0:Int)≤_;omega,fun _ x hx=>(by cases hx),fun b hb=>absurd rfl hb⟩
section
variable {c:Cfg} {s:Cache}
theorem has_iff (b:Int):s.has c b=true↔b∈s.row c b:=by unfold Cache.has;simp
theorem has_false (b:Int):s.has c b=false↔b∉s.row c b:=by rw[<- has_iff];simp
theorem CInv.none (h:CInv c s) {b:Int} (hb:b∉s.row c b):s.tok b=b0:=Classical.not_not.1 fun q=>hb (h.line b q)
theorem use_no {b:Int} (hb:b∉s.row c b):s.use c b=(s,false):=by
 have hr:s.remove c b=(s,false):=by unfold Cache.remove;rw[if_neg (by rw[has_iff];exact hb)]
 unfold Cache.use
 rw[hr];rfl
theorem use_yes (h:CInv c s) {b:Int} (hb:b∈s.row c b):s.use c b=({ s with rows:=upd s.rows (imod b c.sets) ((s.row c b).erase b ++ [b])},true):=by
 have hr:s.remove c b=({ s with rows:=upd s.rows (imod b c.sets) ((s.row c b).erase b)},true):=by unfold Cache.remove;rw[if_pos (by rw[has_iff];exact hb)]
 unfold Cache.use
 rw[hr]
 simp only[if_true]
 have hrow:({ s with rows:=upd s.rows (imod b c.sets) ((s.row c b).erase b)}:Cache).row c b=(s.row c b).erase b:=by
  show upd s.rows (imod b c.sets) ((s.row c b).erase b) (imod b c.sets)=_
  simp[upd]
 unfold Cache.add
 rw[if_neg,hrow]
 ·congr 1
  congr 1
  funext k
  by_cases e:k=imod b c.sets <;> simp[upd,e]
 ·rw[hrow,has_iff,hrow]
  have hnd:(s.row c b).Nodup:=h.nodup _
  have hlen:=List.length_erase_of_mem hb
  have hsh:((s.row c b).length:Int)≤c.ways:=h.short _
  have hpos:0 < (s.row c b).length:=List.length_pos_of_mem hb
  have h0:=(h.own _ b hb).1
  have hne:b∉(s.row c b).erase b:=fun q=>by have:=hnd.mem_erase_iff.1 q;exact this.1 rfl
  rintro(q | q | q)
  ·omega
  ·exact hne q
  ·omega
theorem CInv.used (h:CInv c s) {b:Int} (hb:b∈s.row c b) (t:Int->Bun) (ht:∀ x,x≠b->t x=s.tok x):CInv c { rows:=upd s.rows (imod b c.sets) ((s.row c b).erase b ++ [b]),tok:=t }:=by
 have hnd:(s.row c b).Nodup:=h.nodup _
 have hlen:=List.length_erase_of_mem hb
 have hpos:0 < (s.row c b).length:=List.length_pos_of_mem hb
 refine⟨fun k=>?_,fun k=>?_,fun k x hx=>?_,fun x hx=>?_⟩
 ·show List.Nodup (upd (α:=List Int) _ _ _ k)
  by_cases e:k=imod b c.sets
  ·simp only[upd,if_pos e]
   refine List.nodup_append.2 ⟨hnd.erase _,by simp,fun x hx y hy q=>?_⟩
   simp only[List.mem_singleton] at hy
   rw[q,hy] at hx
   exact(hnd.mem_erase_iff.1 hx).1 rfl
  ·simp only[upd,if_neg e];exact h.nodup k
 ·show((List.length (upd (α:=List Int) _ _ _ k):Nat):Int)≤_
  by_cases e:k=imod b c.sets
  ·simp only[upd,if_pos e,List.length_append,List.length_singleton]
   have:((s.row c b).length:Int)≤c.ways:=h.short _
   omega
  ·simp only[upd,if_neg e];exact h.short k
 ·have hx':x∈upd s.rows (imod b c.sets) ((s.row c b).erase b ++ [b]) k:=hx
  by_cases e:k=imod b c.sets
  ·simp only[upd,if_pos e,List.mem_append,List.mem_singleton] at hx'
   rcases hx' with q | q
   ·rw[e];exact h.own _ x (List.mem_of_mem_erase q)
   ·rw[e,q];exact h.own _ b hb
  ·simp only[upd,if_neg e] at hx';exact h.own k x hx'
 ·have hx':t x≠b0:=hx
  show x∈upd s.rows (imod b c.sets) ((s.row c b).erase b ++ [b]) (imod x c.sets)
  by_cases q:x=b
  ·rw[q];simp[upd]
  ·rw[ht x q] at hx'
   have:=h.line x hx'
   by_cases e:imod x c.sets=imod b c.sets
   ·simp only[upd,if_pos e,List.mem_append]
    refine .inl (hnd.mem_erase_iff.2 ⟨q,?_⟩)
    have hxr:x∈s.rows (imod x c.sets):=this
    rw[e] at hxr;exact hxr
   ·simp only[upd,if_neg e];exact this
theorem lose_eq (h:CInv c s) (b:Int):∃ s',(s.lose c b)=(s',s.tok b)/\s'.tok=upd s.tok b b0/\CInv c s'/\(∀ k,(s'.rows k).length≤(s.rows k).length)/\(b∈s.row c b->(s'.rows (imod b c.sets)).length+1=(s.rows (imod b c.sets)).length)/\∀ k x,x∈s'.rows k->x∈s.rows k/\x≠b:=by
 by_cases hb:b∈s.row c b
 ·have hnd:(s.row c b).Nodup:=h.nodup _
  have hlen:=List.length_erase_of_mem hb
  have hpos:0 < (s.row c b).length:=List.length_pos_of_mem hb
  refine⟨{ rows:=upd s.rows (imod b c.sets) ((s.row c b).erase b),tok:=upd s.tok b b0 },?_,rfl,⟨fun k=>?_,fun k=>?_,fun k x hx=>?_,fun x hx=>?_⟩,fun k=>?_,fun _=>?_,fun k x hx=>?_⟩
  ·unfold Cache.lose Cache.remove
   rw[if_pos (by rw[has_iff];exact hb)]
   rfl
  ·show List.Nodup (upd (α:=List Int) _ _ _ k)
   by_cases e:k=imod b c.sets
   ·simp only[upd,if_pos e];exact hnd.erase _
   ·simp only[upd,if_neg e];exact h.nodup k
  ·show((List.length (upd (α:=List Int) _ _ _ k):Nat):Int)≤_
   by_cases e:k=imod b c.sets
   ·simp only[upd,if_pos e]
    have:((s.row c b).length:Int)≤c.ways:=h.short _
    omega
   ·simp only[upd,if_neg e];exact h.short k
  ·have hx':x∈upd s.rows (imod b c.sets) ((s.row c b).erase b) k:=hx
   by_cases e:k=imod b c.sets
   ·simp only[upd,if_pos e] at hx'
    rw[e];exact h.own _ x (List.mem_of_mem_erase hx')
   ·simp only[upd,if_neg e] at hx';exact h.own k x hx'
  ·have hx':upd s.tok b b0 x≠b0:=hx
   show x∈upd s.rows (imod b c.sets) ((s.row c b).erase b) (imod x c.sets)
   by_cases q:x=b
   ·simp[upd,q] at hx'
   ·simp only[upd,if_neg q] at hx'
    have:=h.line x hx'
    by_cases e:imod x c.sets=imod b c.sets
    ·simp only[upd,if_pos e]
     have hxr:x∈s.rows (imod x c.sets):=this
     rw[e] at hxr
     exact hnd.mem_erase_iff.2 ⟨q,hxr⟩
    ·simp only[upd,if_neg e];exact this
  ·show List.length (upd (α:=List Int) _ _ _ k)≤_
   by_cases e:k=imod b c.sets
   ·simp only[upd,if_pos e];rw[e];show _≤(s.row c b).length;omega
   ·simp only[upd,if_neg e];exact Nat.le_refl _
  ·show List.length (upd (α:=List Int) _ _ _ (imod b c.sets))+1=(s.row c b).length
   simp only[upd,if_true];omega
  ·have hx':x∈upd s.rows (imod b c.sets) ((s.row c b).erase b) k:=hx
   by_cases e:k=imod b c.sets
   ·simp only[upd,if_pos e] at hx'
    have:=hnd.mem_erase_iff.1 hx'
    exact⟨by rw[e];exact this.2,this.1⟩
   ·simp only[upd,if_neg e] at hx'
    refine⟨hx',fun q=>e ?_⟩
    rw[q] at hx'
    exact(h.own k b hx').2.symm
 ·refine⟨{ rows:=s.rows,tok:=upd s.tok b b0 },?_,rfl,⟨h.nodup,h.short,h.own,fun x hx=>?_⟩,fun k=>Nat.le_refl _,fun q=>absurd q hb,fun k x hx=>⟨hx,fun q=>?_⟩⟩
  ·unfold Cache.lose Cache.remove
   rw[if_neg (by rw[has_iff];exact hb)]
  ·have hx':upd s.tok b b0 x≠b0:=hx
   by_cases q:x=b
   ·simp[upd,q] at hx'
   ·simp only[upd,if_neg q] at hx';exact h.line x hx'
  ·rw[q] at hx
   have:=(h.own k b hx).2
   exact hb (by unfold Cache.row;rw[this];exact hx)
theorem add_eq (h:CInv c s) {b:Int} (h0:0≤b) (hb:b∉s.row c b) (hl:((s.row c b).length:Int) < c.ways) (t:Int->Bun) (ht:∀ x,x≠b->t x=s.tok x):s.add c b=({ s with rows:=upd s.rows (imod b c.sets) (s.row c b ++ [b])},true)/\CInv c { rows:=upd s.rows (imod b c.sets) (s.row c b ++ [b]),tok:=t }:=by
 refine⟨?_,fun k=>?_,fun k=>?_,fun k x hx=>?_,fun x hx=>?_⟩
 ·unfold Cache.add
  rw[if_neg]
  rw[has_iff]
  rintro(q | q | q)
  ·omega
  ·exact hb q
  ·omega
 ·show List.Nodup (upd (α:=List Int) _ _ _ k)
  by_cases e:k=imod b c.sets
  ·simp only[upd,if_pos e]
   refine List.nodup_append.2 ⟨h.nodup _,by simp,fun x hx y hy q=>?_⟩
   simp only[List.mem_singleton] at hy
   rw[q,hy] at hx
   exact hb hx
  ·simp only[upd,if_neg e];exact h.nodup k
 ·show((List.length (upd (α:=List Int) _ _ _ k):Nat):Int)≤_
  by_cases e:k=imod b c.sets
  ·simp only[upd,if_pos e,List.length_append,List.length_singleton];omega
  ·simp only[upd,if_neg e];exact h.short k
 ·have hx':x∈upd s.rows (imod b c.sets) (s.row c b ++ [b]) k:=hx
  by_cases e:k=imod b c.sets
  ·simp only[upd,if_pos e,List.mem_append,List.mem_singleton] at hx'
   rcases hx' with q | q
   ·rw[e];exact h.own _ x q
   ·rw[e,q];exact⟨h0,rfl⟩
  ·simp only[upd,if_neg e] at hx';exact h.own k x hx'
 ·have hx':t x≠b0:=hx
  show x∈upd s.rows (imod b c.sets) (s.row c b ++ [b]) (imod x c.sets)
  by_cases q:x=b
  ·rw[q];simp[upd]
  ·rw[ht x q] at hx'
   have:=h.line x hx'
   by_cases e:imod x c.sets=imod b c.sets
   ·simp only[upd,if_pos e,List.mem_append]
    have hxr:x∈s.rows (imod x c.sets):=this
    rw[e] at hxr
    exact .inl hxr
   ·simp only[upd,if_neg e];exact this
theorem absorb_eq (h:CInv c s) {b:Int} (hb0:0≤b) {t:Bun} (ht:1≤t.count) (p:Int):CInv c (s.absorb c b t p).1 /\
  (((s.absorb c b t p).1.tok=upd s.tok b (join (s.tok b) t)/\(s.absorb c b t p).2=none/\b∈s.row c b) ∨
  ((s.absorb c b t p).1.tok=upd s.tok b t/\(s.absorb c b t p).2=none/\b∉s.row c b) ∨
  (∃ x,x≠p/\x≠b/\0≤x/\x∈s.row c x/\b∉s.row c b/\(s.absorb c b t p).1.tok=upd (upd s.tok x b0) b t/\(s.absorb c b t p).2=some ⟨x,s.tok x⟩) ∨
  ((s.absorb c b t p).1=s/\(s.absorb c b t p).2=some ⟨b,t⟩/\b∉s.row c b/\∀ x∈s.row c b,x=p)):=by
 unfold Cache.absorb
 rw[if_neg (by omega)]
 by_cases hb:b∈s.row c b
 ·rw[use_yes h hb]
  simp only[if_true]
  exact⟨h.used hb _ (fun x q=>by simp[upd,q]),.inl ⟨trivial,trivial,hb⟩⟩
 ·rw[use_no hb]
  simp only[Bool.false_eq_true,if_false]
  have hbf:s.has c b=false:=(has_false b).2 hb
  by_cases hl:((s.row c b).length:Int) < c.ways
  ·have hv:s.victim c b p=(-1,true):=by
    unfold Cache.victim
    rw[if_neg (by omega),if_pos (.inr hl)]
   have hm1:s.has c (-1)=false:=(has_false _).2 (fun q=>by have:=(h.own _ _ q).1;omega)
   simp only[hv,hm1,Bool.not_true,Bool.false_eq_true,if_false]
   obtain⟨h1,h2⟩:=add_eq h hb0 hb hl (upd s.tok b t) (fun x q=>by simp[upd,q])
   rw[h1]
   exact⟨h2,.inr (.inl ⟨trivial,trivial,hb⟩)⟩
  ·have hv:s.victim c b p=match (s.row c b).find? (fun x=>x != p) with | some x=>(x,true) | none=>(-1,false):=by
    unfold Cache.victim
    rw[if_neg (by omega),if_neg (by rw[hbf];simp only[Bool.false_eq_true,false_or];exact hl)]
    rfl
   rw[hv]
   cases hf:(s.row c b).find? (fun x=>x != p) with
   | none =>
    simp only[Bool.not_false,if_true]
    refine⟨h,.inr (.inr (.inr ⟨trivial,trivial,hb,fun x hx=>?_⟩))⟩
    have:=List.find?_eq_none.1 hf x hx
    simpa using this
   | some x =>
    have hxp:x≠p:=by have:=List.find?_some hf;simpa using this
    have hxr:x∈s.row c b:=List.mem_of_find?_eq_some hf
    have hxo:=h.own _ x hxr
    have hxx:x∈s.row c x:=by unfold Cache.row;rw[hxo.2];exact hxr
    have hxb:x≠b:=fun q=>hb (q ▸ hxr)
    have hhx:s.has c x=true:=(has_iff x).2 hxx
    simp only[Bool.not_true,Bool.false_eq_true,if_false,hhx,if_true]
    obtain⟨s',e1,e2,e3,e4,e5,e6⟩:=lose_eq h x
    rw[e1]
    simp only
    have e5':=e5 hxx
    have hbs:b∉s'.row c b:=fun q=>hb (e6 _ _ q).1
    have hlen:((s'.row c b).length:Int) < c.ways:=by
     have h1:((s.row c b).length:Int)≤c.ways:=h.short _
     rw[hxo.2] at e5'
     have h2:(s'.row c b).length+1=(s.row c b).length:=e5'
     omega
    obtain⟨h1,h2⟩:=add_eq e3 hb0 hbs hlen (upd s'.tok b t) (fun x q=>by simp[upd,q])
    rw[h1]
    exact⟨h2,.inr (.inr (.inl ⟨x,hxp,hxb,hxo.1,hxx,hb,by simp only[e2],rfl⟩))⟩
theorem valued_count (n:Int) (o h:Bool) (d:Int):(valued n o h d).count=n:=rfl
theorem split_count {h:Bun} (h0:0≤h.count) (hb:h.count < 9223372036854775807) (n:Int) (o d:Bool):0≤(split h n o d).2.count/\(split h n o d).2.count≤h.count/\0≤(split h n o d).1.count/\(split h n o d).1.count+(split h n o d).2.count=h.count:=by
 have hM:∀ (m:Int) (a b:Bool),m≤h.count->0≤(splitM h m a b).2.count/\(splitM h m a b).2.count≤h.count/\0≤(splitM h m a b).1.count/\(splitM h m a b).1.count+(splitM h m a b).2.count=h.count:=by
  intro m a b hm
  unfold splitM
  split
  ·exact⟨h0,Int.le_refl _,Int.le_refl _,by simp[b0]⟩
  ·split
   ·simp only[valued_count]
    rw[wrap_id (by omega) (by omega)]
    omega
   ·simp only[valued_count,b0_count];omega
 unfold split
 have hc:clamp n 0 (max h.count 0)≤h.count/\0≤clamp n 0 (max h.count 0):=by unfold clamp;omega
 unfold splitK
 split
 ·exact hM _ _ _ hc.1
 ·split
  ·exact hM _ _ _ (by omega)
  ·exact hM _ _ _ hc.1
theorem split_b0 (n:Int) (o d:Bool):split b0 n o d=(b0,b0):=by
 unfold split
 have hc:clamp n 0 (max b0.count 0)=0:=by show clamp n 0 (max 0 0)=0;unfold clamp;omega
 rw[hc]
 cases o <;> cases d <;> rfl
theorem take_eq (h:CInv c s) (b n:Int) (o d:Bool):CInv c (s.take c b n o d).1/\(s.take c b n o d).2=(split (s.tok b) n o d).1/\(s.take c b n o d).1.tok=upd s.tok b (if (split (s.tok b) n o d).2.count > 0 then (split (s.tok b) n o d).2 else b0):=by
 unfold Cache.take
 simp only
 by_cases hp:(split (s.tok b) n o d).2.count > 0
 ·rw[if_pos hp,if_pos hp]
  refine⟨⟨h.nodup,h.short,h.own,fun x hx=>?_⟩,rfl,rfl⟩
  have hx':upd s.tok b (split (s.tok b) n o d).2 x≠b0:=hx
  by_cases q:x=b
  ·rw[q]
   refine h.line b (fun e=>?_)
   rw[e,split_b0,b0_count] at hp;omega
  ·simp only[upd,if_neg q] at hx';exact h.line x hx'
 ·rw[if_neg hp,if_neg hp]
  obtain⟨s',e1,e2,e3,-⟩:=lose_eq h b
  rw[e1]
  exact⟨e3,rfl,e2⟩
theorem doIt_eq (h:CInv c s) (op:Op):CInv c (s.doIt c op).1/\(s.doIt c op).2=(doOp op (s.tok op.block) c.tokens).2/\(s.doIt c op).1.tok=(if (doOp op (s.tok op.block) c.tokens).2.2 then upd s.tok op.block (doOp op (s.tok op.block) c.tokens).1 else s.tok):=by
 unfold Cache.doIt
 simp only
 cases hr:(doOp op (s.tok op.block) c.tokens).2.2
 ·simp only[Bool.false_eq_true,if_false];exact⟨h,trivial,trivial⟩
 ·simp only[if_true]
  have hne:s.tok op.block≠b0:=fun e=>by
   rw[e] at hr
   unfold doOp at hr
   have hrd:reads b0=false:=rfl
   simp only[writes,hrd,Bool.false_and,Bool.and_false,Bool.false_eq_true,if_false] at hr
  have hb:=h.line _ hne
  have h':CInv c { s with tok:=upd s.tok op.block (doOp op (s.tok op.block) c.tokens).1 }:=⟨h.nodup,h.short,h.own,fun x hx=>by
   have hx':upd s.tok op.block (doOp op (s.tok op.block) c.tokens).1 x≠b0:=hx
   by_cases q:x=op.block
   ·rw[q];exact hb
   ·simp only[upd,if_neg q] at hx';exact h.line x hx'⟩
  rw[use_yes h' hb]
  exact⟨h'.used hb _ (fun x q=>rfl),trivial,rfl⟩
end
end Go.Proofs.YtiebppkhaiofeaaGreat.S
