/- Part of the proof of TopStarver: what functions of the program do. -/
import Derived.Test.YtiebppkhaiofeaaGreatS10
set_option maxHeartbeats 4000000
set_option maxRecDepth 100000
set_option linter.unusedVariables false
set_option linter.unusedSimpArgs false
namespace Go.Proofs.YtiebppkhaiofeaaGreat.K
open Go.RowKit Go.Proofs.YtiebppkhaiofeaaGreatW.PrintWords Go.Proofs.YtiebppkhaiofeaaGreat.S
attribute [local go_sem] World.cell?_alloc_some
open Go.ChangeMaps Go.MapKept
theorem under131:Tryz.prog.underlying 131=some (.map 3 4):=by kernel_rfl
theorem zero4 (w:Go.World):(zeroValue 4).run Tryz.prog w=.ok (.bool false) w:=by
 kernel_rfl
section
variable {b:Nat} {w:Go.World}
theorem MapI.look {g:Int->Int} (h:MapI g b w) (k:Int):(Instr.lookup 31 (.map (some b)) (.int .i64 k) false).run Tryz.prog w=.ok (.int .i64 (g k)) w:=by
 obtain⟨es,ck,f,h1,h2,h3⟩:=h
 rw[<- h3 k]
 exact h2.look h1 under31 under3 (zero3 _) k
theorem MapB.look {g:Int->Bool} (h:MapB g b w) (k:Int):(Instr.lookup 131 (.map (some b)) (.int .i64 k) false).run Tryz.prog w=.ok (.bool (g k)) w:=by
 obtain⟨es,ck,f,h1,h2,h3⟩:=h
 rw[<- h3 k]
 exact h2.look h1 under131 under3 (zero4 _) k
theorem MapI.put {g:Int->Int} (h:MapI g b w) (k v:Int):∃ es ck,(Instr.mapUpdate 31 (.map (some b)) (.int .i64 k) (.int .i64 v)).run Tryz.prog w=.ok () (setBlock w b (.map es ck))/\MapI (upd g k v) b (setBlock w b (.map es ck)):=by
 obtain⟨es,ck,f,h1,h2,h3⟩:=h
 obtain⟨es',ck',hr,hi⟩:=h2.put h1 under31 under3 k (.int .i64 v)
 refine⟨es',ck',hr,es',ck',_,set_at h1 _,hi,fun j=>?_⟩
 by_cases hj:j=k
 ·subst hj;simp[fput,upd]
 ·simp[fput,upd,hj,h3 j]
theorem MapB.put {g:Int->Bool} (h:MapB g b w) (k:Int) (v:Bool):∃ es ck,(Instr.mapUpdate 131 (.map (some b)) (.int .i64 k) (.bool v)).run Tryz.prog w=.ok () (setBlock w b (.map es ck))/\MapB (upd g k v) b (setBlock w b (.map es ck)):=by
 obtain⟨es,ck,f,h1,h2,h3⟩:=h
 obtain⟨es',ck',hr,hi⟩:=h2.put h1 under131 under3 k (.bool v)
 refine⟨es',ck',hr,es',ck',_,set_at h1 _,hi,fun j=>?_⟩
 by_cases hj:j=k
 ·subst hj;simp[fput,upd]
 ·simp[fput,upd,hj,h3 j]
theorem MapB.del {g:Int->Bool} (h:MapB g b w) (k:Int) (a t:TypeId):∃ es ck,(Builtin.delete_ #[131,a] t #[.map (some b),.int .i64 k]).run Tryz.prog w=.ok (.tuple #[]) (setBlock w b (.map es ck))/\MapB (upd g k false) b (setBlock w b (.map es ck)):=by
 obtain⟨es,ck,f,h1,h2,h3⟩:=h
 obtain⟨es',hr,hi⟩:=h2.del h1 under131 under3 k a t
 refine⟨es',ck,hr,es',ck,_,set_at h1 _,hi,fun j=>?_⟩
 by_cases hj:j=k
 ·subst hj;simp[fdel,upd]
 ·simp[fdel,upd,hj,h3 j]
end
def NS (c:Cfg) (n:S.Node) (o:S.Out) (p:NPtr) (K:Nat->Nat) (w w':Go.World):Prop:=∃ K',(∀ x,x < w.heap.size->K' x=K x)/\NO c n o p K' w'/\KS (fun x=>K x≤6) w w'
section
variable {c:Cfg} {n n':S.Node} {o o':S.Out} {p:NPtr} {K K1:Nat->Nat} {w w1 w2:Go.World}
theorem NS.refl (h:NO c n o p K w):NS c n o p K w w:=⟨K,fun _ _=>rfl,h,KS.refl _ w⟩
theorem NOP.ns {v v':Value} (hv:v'=v) (h:NS c n o p K w w1):NOP v c n o p K w (.returned v') w1:=⟨by rw[hv],h⟩
theorem NS.next (h:NS c n o p K w w1) (hs:∀ K1,NO c n o p K1 w1->NS c n' o' p K1 w1 w2):NS c n' o' p K w w2:=by
 obtain⟨K1,ha,hN,hk⟩:=h
 obtain⟨K2,hb,hN2,hk2⟩:=hs K1 hN
 have hsz:=hk.size
 exact⟨K2,fun x hx=>(hb x (by omega)).trans (ha x hx),hN2,hk.trans hk2 (fun x hx h=>by rw[<- ha x hx];exact h)⟩
theorem NS.below (h:NS c n o p K w w1) (hb:Below w1.heap.size w1 w2):NS c n o p K w w2:=by
 obtain⟨K1,ha,hN,hk⟩:=h
 have hsz:=hk.size
 exact⟨rec_ K1 w1 7,fun x hx=>(rec_old (by omega)).trans (ha x hx),hN.below hb 7,hk.trans (KS.below (fun _=>False) hb) (fun x _ h=>h.elim)⟩
theorem NO.maps_told (h:NO c n o p K w) {ob:Obj} {g:Int->Int} (hm:MapI g p.bo (setBlock w p.bo ob)):NS c { n with told:=g } o p K w (setBlock w p.bo ob):=by
 obtain⟨⟨h1,h2,h3,h4,h5,h6,h7,h8,h9,h10⟩,ho⟩:=h
 have hne:¬ p.ba=p.bo:=fun e=>by rw[e] at h8;omega
 have hA:=h7.keep ((KS.refl (fun x=>x=p.bo) w).block (.inl rfl) ob) hne
 exact⟨K,fun _ _=>rfl,NO.maps (n:=n) ⟨⟨h1,h2,h3,h4,h5,h6,h7,h8,h9,h10⟩,ho⟩ (.inr rfl) hA hm,(KS.refl (fun x=>K x≤6) w).block (.inl (by omega)) ob⟩
theorem NO.maps_asked (h:NO c n o p K w) {ob:Obj} {g:Int->Bool} (hm:MapB g p.ba (setBlock w p.ba ob)):NS c { n with asked:=g } o p K w (setBlock w p.ba ob):=by
 obtain⟨⟨h1,h2,h3,h4,h5,h6,h7,h8,h9,h10⟩,ho⟩:=h
 have hne:¬ p.bo=p.ba:=fun e=>by rw[e] at h10;omega
 have hA:=h9.keep ((KS.refl (fun x=>x=p.ba) w).block (.inl rfl) ob) hne
 exact⟨K,fun _ _=>rfl,NO.maps (n:=n) ⟨⟨h1,h2,h3,h4,h5,h6,h7,h8,h9,h10⟩,ho⟩ (.inl rfl) hm hA,(KS.refl (fun x=>K x≤6) w).block (.inl (by omega)) ob⟩
theorem NO.send (h:NO c n o p K w) (hl:o.letters.length≤1000000000000) (l:Let):Calls Tryz.prog 97 #[.pointer (some ⟨p.q,0,none⟩),letV l] w (NOP (.tuple #[]) c n (o.send l) p K w):=by
 refine(outSend_any h.2 hl l).mono ?_
 rintro e w' ⟨rfl,hO,hk⟩
 refine⟨rfl,rec_ K w 6,fun x hx=>rec_old hx,⟨h.1.keep hk (fun x hx h5=>⟨rec_old hx,by show ¬ K x=6;omega⟩),hO⟩,hk.mono (fun x _ hx=>by show K x≤6;omega)⟩
end
def NG (c:Cfg) (n:S.Node) (o:S.Out) (p:NPtr) (K:Nat->Nat) (w:Go.World) (g:Nat) (ob:Obj) (w':Go.World):Prop:=∃ K',(∀ x,x < w.heap.size->K' x=K x)/\NO c n o p K' w'/\KS (fun x=>K x≤6) w w'/\K' g=7/\w'.heap[g]?=some ob
section
variable {c:Cfg} {n n':S.Node} {o o':S.Out} {p:NPtr} {K:Nat->Nat} {w w1 w2:Go.World} {g:Nat} {ob:Obj}
theorem NG.ns (h:NG c n o p K w g ob w1):NS c n o p K w w1:=by obtain⟨K1,h1,h2,h3,-⟩:=h;exact⟨K1,h1,h2,h3⟩
theorem NS.box (h:NS c n o p K w w1) (ob:Obj):NG c n o p K w w1.heap.size ob (w1.alloc ob):=by
 obtain⟨K1,ha,hN,hk⟩:=h
 have hsz:=hk.size
 have hb:=below_alloc (Below.refl _ w1) ob
 exact⟨rec_ K1 w1 7,fun x hx=>(rec_old (by omega)).trans (ha x hx),hN.below hb 7,hk.trans (KS.below (fun _=>False) hb) (fun x _ h=>h.elim),rec_new (Nat.le_refl _),blk_new w1 ob⟩
theorem NG.below (h:NG c n o p K w g ob w1) (hb:Below w1.heap.size w1 w2):NG c n o p K w g ob w2:=by
 obtain⟨K1,ha,hN,hk,hg,hgo⟩:=h
 have hsz:=hk.size
 exact⟨rec_ K1 w1 7,fun x hx=>(rec_old (by omega)).trans (ha x hx),hN.below hb 7,hk.trans (KS.below (fun _=>False) hb) (fun x _ h=>h.elim),(rec_old (blk_lt hgo)).trans hg,blk_below hgo hb⟩
theorem NG.via (h:NG c n o p K w g ob w1) (hs:∀ K1,NO c n o p K1 w1->(∀ x,x < w.heap.size->K1 x=K x)->K1 g=7->NS c n' o' p K1 w1 w2):NG c n' o' p K w g ob w2:=by
 obtain⟨K1,ha,hN,hk,hg,hgo⟩:=h
 obtain⟨K2,hb,hN2,hk2⟩:=hs K1 hN ha hg
 have hsz:=hk.size
 exact⟨K2,fun x hx=>(hb x (by omega)).trans (ha x hx),hN2,hk.trans hk2 (fun x hx h=>by rw[<- ha x hx];exact h),(hb g (blk_lt hgo)).trans hg,hk2.at_ hgo (by show ¬ K1 g≤6;omega)⟩
theorem NG.call {f:Nat} {args:Array Value} {v:Value} (h:NG c n o p K w g ob w1) (hs:∀ K1,NO c n o p K1 w1->Calls Tryz.prog f args w1 (NOP v c n' o' p K1 w1)):Calls Tryz.prog f args w1 (fun e w'=>e=.returned v/\NG c n' o' p K w g ob w'):=by
 have h0:=h
 obtain⟨K1,ha,hN,hk,hg,hgo⟩:=h
 refine(hs K1 hN).mono ?_
 rintro e w2 ⟨rfl,K2,hb,hN2,hk2⟩
 have hsz:=hk.size
 exact⟨rfl,K2,fun x hx=>(hb x (by omega)).trans (ha x hx),hN2,hk.trans hk2 (fun x hx h=>by rw[<- ha x hx];exact h),(hb g (blk_lt hgo)).trans hg,hk2.at_ hgo (by show ¬ K1 g≤6;omega)⟩
end
theorem nodeEnd_any {c:Cfg} {n:S.Node} {o:S.Out} {p:NPtr} {K:Nat->Nat} {w:Go.World} (hN:NO c n o p K w) (hl:o.letters.length≤1000000000000) (b:Int):Calls Tryz.prog 112 #[.pointer (some ⟨p.b,0,none⟩),.int .i64 b,.pointer (some ⟨p.q,0,none⟩)] w (NOP (.tuple #[]) c (n.end_ c b o).1 (n.end_ c b o).2 p K w):=by
 have NN:=AS hN
 have HL:=AS hl
 have OW:=AS (nodeOwn_any hN.1 b)
 have hend:n.end_ c b o=if (n.own b).isSome=true/\¬ (Table.actOf n.know b).seq≤n.told b then ({ n with told:=upd n.told b (Table.actOf n.know b).seq,asked:=upd n.asked b false },o.send (n.home c 5 b (Table.actOf n.know b).seq)) else (n,o):=by
  unfold Node.end_
  cases h:n.own b with
  | none=>simp
  | some a =>
   have:=own_some_ (n:=n) (b:=b) (by rw[h];rfl)
   rw[h] at this
   injection this with this
   subst this
   by_cases h2:(Table.actOf n.know b).seq≤n.told b <;> simp[h2]
 generalize n.end_ c b o=R at *
 generalize (n.own b).isSome=ok at *
 have CE:=AS (show ∀ W':Go.World,W'.heap[p.b]?=some (.cells (nodeC c n p) 133 (0,0))->W'.cell? ⟨p.b,13,none⟩=some (.map (some p.ba))/\W'.cell? ⟨p.b,14,none⟩=some (.map (some p.bo)) from fun W' h=>⟨cw h 13,cw h 14⟩)
 generalize hact:Table.actOf n.know b=act at *
 obtain⟨a0,a1,a2⟩:=act
 have hav:actV ⟨a0,a1,a2⟩=.agg #[.int .i64 a0,.int .i64 a1,.int .i64 a2]:=rfl
 rw[hav] at OW
 have HR:=AS hend
 clear hav hend hN hl hact
 generalize hpb:p.b=pb at *
 go_enter Tryz.func112,Tryz.ntmps112
 go_wp2_with fail
 refine OW.out.mono ?_
 rintro e w2 ⟨rfl,hb2⟩
 have N2:=AS ((NS.refl NN.out).below hb2)
 clear hb2 OW
 go_upto_region 1 with fail
 have NB:=AS (blk_new w2 (.cells #[.int .i64 a0,.int .i64 a1,.int .i64 a2] 55))
 have N3:=AS (N2.out.box (.cells #[.int .i64 a0,.int .i64 a1,.int .i64 a2] 55))
 clear N2
 generalize hg:w2.heap.size=g at *
 generalize w2.alloc (.cells #[.int .i64 a0,.int .i64 a1,.int .i64 a2] 55)=W3 at NB N3 ⊢
 have h14:W3.cell? ⟨pb,14,none⟩=some (.map (some p.bo)):=by obtain⟨K1,-,h,-,-⟩:=N3.out;have h11:=h.1.1;rw[hpb] at h11;exact(CE.out _ h11).2
 have hlk:(Instr.lookup 31 (.map (some p.bo)) (.int .i64 b) false).run Tryz.prog W3.drew=.ok (.int .i64 (n.told b)) W3.drew:=by obtain⟨K1,-,h,-,-⟩:=N3.out;exact(MapI.keep h.1.2.2.2.2.2.2.2.2.1 (KS.drew (KS.refl (fun _=>False) W3)) id).look b
 generalize n.told b=to_ at *
 have a_0:=cw NB.out 0 (v:=.int .i64 a0)
 have a_1:=cw NB.out 1 (v:=.int .i64 a1)
 have a_2:=cw NB.out 2 (v:=.int .i64 a2)
 go_cut [6,26] (fun v6 v26 wx=>v6=.pointer (some ⟨g,0,none⟩)/\(∃ u,v26=.bool u/\u = !(ok && !decide (a2≤to_)))/\wx=W3.drew)
 case first =>
  have DR:=AS (show ok=ok from rfl)
  cases ok
  all_goals
   go_region
   all_goals
    go_wp2_with fail
    go_meet
    refine⟨rfl,⟨_,rfl,?_⟩,rfl⟩
    first | rfl | (simp[go_sem];done) | (by_cases he:a2≤to_ <;> simp[he,go_sem])
 case rest =>
  obtain⟨rfl,⟨u,rfl,hu⟩,rfl⟩:=hcut
  have NB4:=AS (blk_drew NB.out)
  have N4:=AS (N3.out.below (Below.drew (Below.refl _ W3)))
  clear a_0 a_1 a_2 h14 hlk NB N3
  generalize W3.drew=W4 at NB4 N4 ⊢
  have hr:=HR.out
  by_cases hq:ok=true/\¬ a2≤to_
  case neg =>
   replace hr:=hr.trans (if_neg (by first | exact hq | simpa using hq | (simp at hq ⊢;exact hq)))
   subst hr
   obtain rfl:u=true:=by rw[hu];cases ok <;> simp_all
   go_wp2
   first
    | go_ret
    | go_end0
   exact NOP.ns rfl N4.out.ns
  case pos =>
   replace hr:=hr.trans (if_pos (by first | exact hq | simpa using hq | (simp at hq ⊢;exact hq)))
   subst hr
   obtain rfl:u=false:=by rw[hu];simp[hq.1];omega
   have a_2:=cw NB4.out 2 (v:=.int .i64 a2)
   have HM:=AS (show Calls Tryz.prog 98 #[.pointer (some ⟨pb,0,none⟩),.int .i64 5,.int .i64 b,.int .i64 a2] W4 (RV (letV (n.home c 5 b a2)) W4) from by obtain⟨K1,-,h,-,-⟩:=N4.out;have:=nodeHome_any h.1 5 b a2;rw[hpb] at this;exact this)
   clear hq hu
   go_wp2_with fail
   refine HM.out.mono ?_
   rintro e w5 ⟨rfl,hb5⟩
   have N5:=AS (N4.out.below hb5)
   clear hb5 HM NB4 N4 a_2
   go_wp2_with fail
   refine(N5.out.call (fun K1 h=>h.send HL.out (n.home c 5 b a2))).mono ?_
   rintro e w6 ⟨rfl,h6⟩
   have N6:=AS h6
   clear h6 N5
   obtain⟨es,ck,hrun,hm7⟩:∃ es ck,(Instr.mapUpdate 31 (.map (some p.bo)) (.int .i64 b) (.int .i64 a2)).run Tryz.prog w6.drew=.ok () (setBlock w6.drew p.bo (.map es ck))/\MapI (upd n.told b a2) p.bo (setBlock w6.drew p.bo (.map es ck)):=by
    obtain⟨K1,-,h,-,-⟩:=N6.out
    exact(MapI.keep h.1.2.2.2.2.2.2.2.2.1 (KS.drew (KS.refl (fun _=>False) w6)) id).put b a2
   have N7:=AS ((N6.out.below (Below.drew (Below.refl _ w6))).via (fun K1 h _ _=>h.maps_told hm7))
   clear hm7
   have h14:w6.cell? ⟨pb,14,none⟩=some (.map (some p.bo)):=by obtain⟨K1,-,h,-,-⟩:=N6.out;have h11:=h.1.1;rw[hpb] at h11;exact(CE.out _ h11).2
   have a_2:w6.cell? ⟨g,2,none⟩=some (.int .i64 a2):=by obtain⟨K1,-,h,-,-,h2⟩:=N6.out;exact(cw h2 2)
   go_upto_region 3 with fail
   go_cut [6] (fun v6 wx=>wx=setBlock w6.drew p.bo (.map es ck))
   case first =>
    go_region
    all_goals
     go_wp2_with fail
     go_meet
     exact rfl
   case rest =>
    rw[<- hcut] at N7
    clear hcut hrun h14 a_2 N6
    have h13:wc.cell? ⟨pb,13,none⟩=some (.map (some p.ba)):=by obtain⟨K1,-,h,-,-⟩:=N7.out;have h11:=h.1.1;rw[show nodeC c { n with told:=upd n.told b a2 } p=nodeC c n p from rfl,hpb] at h11;exact(CE.out _ h11).1
    obtain⟨es',ck',hdel,hm8⟩:∃ es ck,(Builtin.delete_ #[131,3] 0 #[.map (some p.ba),.int .i64 b]).run Tryz.prog wc=.ok (.tuple #[]) (setBlock wc p.ba (.map es ck))/\MapB (upd n.asked b false) p.ba (setBlock wc p.ba (.map es ck)):=by
     obtain⟨K1,-,h,-,-⟩:=N7.out
     exact MapB.del h.1.2.2.2.2.2.2.1 b 3 0
    have N8:=AS (N7.out.via (fun K1 h _ _=>h.maps_asked hm8))
    clear hm8 N7
    go_wp2
    first
     | go_ret
     | go_end0
    exact NOP.ns rfl N8.out.ns
section
variable {c:Cfg} {n n':S.Node} {o o':S.Out} {p:NPtr} {K:Nat->Nat} {w w1 w2:Go.World}
theorem NO.deact (h:NO c n o p K w) (k s:Int):Calls Tryz.prog 137 #[.pointer (some ⟨p.bt,0,none⟩),.int .i64 k,.int .i64 s] w (NOP (.tuple #[]) c { n with know:=n.know.deactivate k s } o p K w):=by
 refine(tabDeactivate_any h.1.2.2.2.1 k s).mono ?_
 rintro e w' ⟨rfl,hT,hk⟩
 exact⟨rfl,rec_ K w 2,fun x hx=>rec_old hx,h.table hT hk,hk.mono (fun x _ hx=>by have hx':K x=2:=hx;show K x≤6;omega)⟩
theorem NO.act (h:NO c n o p K w) (a:S.Act):Calls Tryz.prog 136 #[.pointer (some ⟨p.bt,0,none⟩),actV a] w (NOP (.bool (n.know.activate a).2) c { n with know:=(n.know.activate a).1 } o p K w):=by
 refine(tabActivate_any h.1.2.2.2.1 a).mono ?_
 rintro e w' ⟨rfl,hT,hk⟩
 exact⟨rfl,rec_ K w 2,fun x hx=>rec_old hx,h.table hT hk,hk.mono (fun x _ hx=>by have hx':K x=2:=hx;show K x≤6;omega)⟩
theorem NO.cacDo (h:NO c n o p K w) (ob:Int) (ow:Bool) (ov:Int):Calls Tryz.prog 110 #[.pointer (some ⟨p.bc,0,none⟩),.agg #[.int .i64 ob,.bool ow,.int .i64 ov],.int .i64 c.tokens] w (NOP (.tuple #[.int .i64 (n.lines.doIt c ⟨ob,ow,ov⟩).2.1,.bool (n.lines.doIt c ⟨ob,ow,ov⟩).2.2]) c { n with lines:=(n.lines.doIt c ⟨ob,ow,ov⟩).1 } o p K w):=by
 refine(cacDo_any h.1.2.2.1 ob ow ov).mono ?_
 rintro e w' ⟨rfl,hT,hk⟩
 exact⟨rfl,rec_ K w 1,fun x hx=>rec_old hx,h.cache hT hk,hk.mono (fun x _ hx=>by have hx':K x=1:=hx;show K x≤6;omega)⟩
theorem NO.cacTake (h:NO c n o p K w) (k m:Int) (a d:Bool):Calls Tryz.prog 135 #[.pointer (some ⟨p.bc,0,none⟩),.int .i64 k,.int .i64 m,.bool a,.bool d] w (NOP (bunV (n.lines.take c k m a d).2) c { n with lines:=(n.lines.take c k m a d).1 } o p K w):=by
 refine(cacTake_any h.1.2.2.1 k m a d).mono ?_
 rintro e w' ⟨rfl,hT,hk⟩
 exact⟨rfl,rec_ K w 1,fun x hx=>rec_old hx,h.cache hT hk,hk.mono (fun x _ hx=>by have hx':K x=1:=hx;show K x≤6;omega)⟩
theorem NO.cacAbsorb (h:NO c n o p K w) (k t0:Int) (t1 t2:Bool) (t3 q:Int):Calls Tryz.prog 131 #[.pointer (some ⟨p.bc,0,none⟩),.int .i64 k,.agg #[.int .i64 t0,.bool t1,.bool t2,.int .i64 t3],.int .i64 q] w (NOP (absV (n.lines.absorb c k ⟨t0,t1,t2,t3⟩ q).2) c { n with lines:=(n.lines.absorb c k ⟨t0,t1,t2,t3⟩ q).1 } o p K w):=by
 refine(cacAbsorb_any h.1.2.2.1 k t0 t1 t2 t3 q).mono ?_
 rintro e w' ⟨rfl,hT,hk⟩
 exact⟨rfl,rec_ K w 1,fun x hx=>rec_old hx,h.cache hT hk,hk.mono (fun x _ hx=>by have hx':K x=1:=hx;show K x≤6;omega)⟩
theorem NO.drew (h:NO c n o p K w):NO c n o p (rec_ K w 7) w.drew:=h.below (Below.drew (Below.refl _ w)) 7
end
theorem nodeDeact_any {c:Cfg} {n:S.Node} {o:S.Out} {p:NPtr} {K:Nat->Nat} {w:Go.World} (hN:NO c n o p K w) (hl:o.letters.length≤1000000000000) (l:Let) (d:Drw):Calls Tryz.prog 95 #[.pointer (some ⟨p.b,0,none⟩),letV l,drwV d,.pointer (some ⟨p.q,0,none⟩)] w (NOP (.tuple #[]) c (n.deactivate c l o).1 (n.deactivate c l o).2 p K w):=by
 obtain⟨k,f,t,b,qq,wh,wr,⟨c0,oo,hh,dd⟩⟩:=l
 obtain⟨d0,d1,d2⟩:=d
 have HL:=AS hl
 have CE:=AS (show ∀ W':Go.World,W'.heap[p.b]?=some (.cells (nodeC c n p) 133 (0,0))->W'.cell? ⟨p.b,11,none⟩=some (.pointer (some ⟨p.bt,0,none⟩)) from fun W' h=>(cw h 11))
 have N1:=AS (((NS.refl hN).box (.cells #[.int .i64 k,.int .i64 f,.int .i64 t,.int .i64 b,.int .i64 qq,.int .i64 wh,.bool wr,.int .i64 c0,.bool oo,.bool hh,.int .i64 dd] 47)).below (below_alloc (Below.refl _ _) (.cells #[.int .i64 d0,.int .i64 d1,.int .i64 d2] 74)))
 show Calls Tryz.prog 95 #[.pointer (some ⟨p.b,0,none⟩),.agg #[.int .i64 k,.int .i64 f,.int .i64 t,.int .i64 b,.int .i64 qq,.int .i64 wh,.bool wr,.int .i64 c0,.bool oo,.bool hh,.int .i64 dd],.agg #[.int .i64 d0,.int .i64 d1,.int .i64 d2],.pointer (some ⟨p.q,0,none⟩)] w (NOP (.tuple #[]) c { n with know:=n.know.deactivate b qq } (o.send (n.home c 7 b qq)) p K w)
 clear hN hl
 generalize hpb:p.b=pb at *
 go_enter Tryz.func95,Tryz.ntmps95
 go_upto_region 1 with fail
 generalize hW:(w.alloc (.cells #[.int .i64 k,.int .i64 f,.int .i64 t,.int .i64 b,.int .i64 qq,.int .i64 wh,.bool wr,.int .i64 c0,.bool oo,.bool hh,.int .i64 dd] 47)).alloc (.cells #[.int .i64 d0,.int .i64 d1,.int .i64 d2] 74)=W at N1 ⊢
 generalize hg:w.heap.size=g at *
 have e11:W.cell? ⟨pb,11,none⟩=some (.pointer (some ⟨p.bt,0,none⟩)):=by obtain⟨K1,-,h,-,-⟩:=N1.out;have h11:=h.1.1;rw[hpb] at h11;exact CE.out _ h11
 have e3:W.cell? ⟨g,3,none⟩=some (.int .i64 b):=by obtain⟨K1,-,h,-,-,h2⟩:=N1.out;exact(cw h2 3)
 have e4:W.cell? ⟨g,4,none⟩=some (.int .i64 qq):=by obtain⟨K1,-,h,-,-,h2⟩:=N1.out;exact(cw h2 4)
 have TB:=AS ((N1.out.below (Below.drew (Below.refl _ W))).call (fun K1 h=>h.deact b qq))
 clear hW
 go_cut [5] (fun v5 wx=>v5=.pointer (some ⟨g,0,none⟩)/\NG c { n with know:=n.know.deactivate b qq } o p K w g (.cells #[.int .i64 k,.int .i64 f,.int .i64 t,.int .i64 b,.int .i64 qq,.int .i64 wh,.bool wr,.int .i64 c0,.bool oo,.bool hh,.int .i64 dd] 47) wx)
 case first =>
  go_region_with (go_at_call 137;refine TB.out.mono ?_;rintro e w3 ⟨rfl,h3⟩;have S3:=AS h3;clear h3)
  all_goals
   go_wp2_with fail
   go_meet
   exact⟨rfl,S3.out⟩
 case rest =>
  obtain⟨rfl,hcut⟩:=hcut
  have N2:=AS hcut
  clear hcut TB e11 e3 e4 N1
  have e3:wc.cell? ⟨g,3,none⟩=some (.int .i64 b):=by obtain⟨K1,-,h,-,-,h2⟩:=N2.out;exact(cw h2 3)
  have e4:wc.cell? ⟨g,4,none⟩=some (.int .i64 qq):=by obtain⟨K1,-,h,-,-,h2⟩:=N2.out;exact(cw h2 4)
  have HM:=AS (show Calls Tryz.prog 98 #[.pointer (some ⟨pb,0,none⟩),.int .i64 7,.int .i64 b,.int .i64 qq] wc (RV (letV (n.home c 7 b qq)) wc) from by obtain⟨K1,-,h,-,-⟩:=N2.out;have:=nodeHome_any h.1 7 b qq;rw[hpb] at this;exact this)
  go_wp2_with fail
  refine HM.out.mono ?_
  rintro e w5 ⟨rfl,hb5⟩
  have N5:=AS (N2.out.below hb5)
  clear hb5 HM N2 e3 e4
  go_wp2_with fail
  refine(N5.out.call (fun K1 h=>h.send HL.out (n.home c 7 b qq))).mono ?_
  rintro e w6 ⟨rfl,h6⟩
  have N6:=AS h6
  clear h6 N5
  go_wp2
  go_end0
  exact NOP.ns rfl N6.out.ns
end Go.Proofs.YtiebppkhaiofeaaGreat.K
namespace Go.Proofs.YtiebppkhaiofeaaGreat.K
open Go.RowKit Go.Proofs.YtiebppkhaiofeaaGreatW.PrintWords Go.Proofs.YtiebppkhaiofeaaGreat.S
section
variable {c:Cfg} {n n':S.Node} {o o':S.Out} {p:NPtr} {K:Nat->Nat} {w w1 w2:Go.World}
theorem NO.procP (h:NO c n o p K w) {e:Ending} {v:Value} {pr:S.Proc} (hP:ProcP c v pr p.bp w e w1):NOP v c { n with cpu:=pr } o p K w e w1:=by
 obtain⟨rfl,hp,hk⟩:=hP
 have h6:=h.1.2.2.2.2.2.1
 exact⟨rfl,rec_ K w 7,fun x hx=>rec_old hx,h.proc hp hk,KS.ofKeeps hk (by intro x hx;simp at hx;subst hx;show K p.bp≤6;omega)⟩
theorem NO.finish (h:NO c n o p K w):Calls Tryz.prog 111 #[.pointer (some ⟨p.bp,0,none⟩)] w (NOP (.tuple #[.int .i64 n.cpu.finish.2.1,.bool n.cpu.finish.2.2]) c { n with cpu:=n.cpu.finish.1 } o p K w):=(finish_any h.1.2.2.2.2.1).mono fun _ _ hP=>h.procP hP
theorem NO.pissue (h:NO c n o p K w) (op:S.Op):Calls Tryz.prog 83 #[.pointer (some ⟨p.bp,0,none⟩),opV op] w (NOP (.bool (n.cpu.issue c op).2) c { n with cpu:=(n.cpu.issue c op).1 } o p K w):=(issue_any h.1.2.2.2.2.1 op).mono fun _ _ hP=>h.procP hP
theorem NO.ptick (h:NO c n o p K w) (h0:0≤c.wait) (h1:c.wait≤64):Calls Tryz.prog 96 #[.pointer (some ⟨p.bp,0,none⟩)] w (NOP (.int .i64 (n.cpu.tick c).2) c { n with cpu:=(n.cpu.tick c).1 } o p K w):=(ptick_any h.1.2.2.2.2.1 h0 h1).mono fun _ _ hP=>h.procP hP
theorem OutK.addDone {q:Nat} (hO:OutK o q K w) (d:S.Done):∃ vd:Value×Value,w.heap[q]?=some (.cells #[vd.1,vd.2] 138 (0,0))/\OwnE doneE vd.2 o.done w/\q∉foot vd.2/\∀ w1 v',KS (fun x=>x∈foot vd.2) w w1->OwnE doneE v' (o.done ++ [d]) w1->(∀ x∈foot v',x∈foot vd.2∨w.heap.size≤x)->(OutK { o with done:=o.done ++ [d]} q (rec_ K w 6) (w1.setCell ⟨q,1,none⟩ v')/\KS (fun x=>K x=6) w (w1.setCell ⟨q,1,none⟩ v')):=by
 obtain⟨vl,vd,h1,h2,h3,h4,h5,h6,h7,h8,h9⟩:=hO
 have hq:=blk_lt h1
 have hl2:=h2.lt
 have hl3:=h3.lt
 refine⟨(vl,vd),h1,h3,h5,fun w1 v' hk hO hf=>?_⟩
 have hq6:rec_ K w 6 q=6:=(rec_old hq).trans h7
 have hv6:∀ x∈foot v',rec_ K w 6 x=6:=fun x hx=>by
  rcases hf x hx with h | h
  ·rw[rec_old (hl3 x h)];exact h9 x h
  ·exact rec_new h
 have hqv:q∉foot v':=fun hx=>by rcases hf q hx with h | h;exact h5 h;omega
 have hk2:=KS.set (KS.refl (fun x=>x=q) w1) (.inl rfl) 1 v' (g:=q)
 refine⟨⟨vl,v',(blk_set (hk.at_ h1 h5) 1 v').trans (by simp),(h2.ks hk (fun x hx e=>h6 x hx e)).ks hk2 (fun x hx e=>h4 (e ▸ hx)),hO.ks hk2 (fun x hx e=>hqv (e ▸ hx)),h4,hqv,fun x hx hd=>?_,hq6,fun x hx=>by rw[rec_old (hl2 x hx)];exact h8 x hx,hv6⟩,(hk.mono (fun x _ hx=>h9 x hx)).trans hk2 (fun x _ e=>by rw[e];exact h7)⟩
 rcases hf x hd with h | h
 ·exact h6 x hx h
 ·have:=hl2 x hx;omega
theorem NO.outK (h:NO c n o p K w) (hO:OutK o' p.q (rec_ K w 6) w1) (hk:KS (fun x=>K x=6) w w1):NS c n o' p K w w1 :=
 ⟨rec_ K w 6,fun x hx=>rec_old hx,⟨h.1.keep hk (fun x hx h5=>⟨rec_old hx,by show ¬ K x=6;omega⟩),hO⟩,hk.mono (fun x _ hx=>by have hx':K x=6:=hx;show K x≤6;omega)⟩
end
end Go.Proofs.YtiebppkhaiofeaaGreat.K
namespace Go.Proofs.YtiebppkhaiofeaaGreat.K
open Go.RowKit Go.Proofs.YtiebppkhaiofeaaGreatW.PrintWords Go.Proofs.YtiebppkhaiofeaaGreat.S
attribute [local go_sem] World.cell?_alloc_some
open Go.ChangeMaps Go.MapKept
theorem doIt_no {c:Cfg} {s:Cache} {op:S.Op} (h:(s.doIt c op).2.2=false):(s.doIt c op).1=s:=by
 have hdo:s.doIt c op=if (doOp op (s.tok op.block) c.tokens).2.2 then ((({ s with tok:=upd s.tok op.block (doOp op (s.tok op.block) c.tokens).1 }:Cache).use c op.block).1,(doOp op (s.tok op.block) c.tokens).2) else (s,(doOp op (s.tok op.block) c.tokens).2):=rfl
 cases hq:(doOp op (s.tok op.block) c.tokens).2.2 with
 | false=>rw[hdo,hq];rfl
 | true=>rw[hdo,hq] at h;simp[hq] at h
theorem RV.below {v:Value} {w w':Go.World} {e:Ending} (h:RV v w e w'):Below w.heap.size w w':=h.2
theorem nodeSettle_any {c:Cfg} {n:S.Node} {o:S.Out} {p:NPtr} {K:Nat->Nat} {w:Go.World} (hN:NO c n o p K w) (hl:o.letters.length≤1000000000000) (hd:o.done.length≤1000000000000):Calls Tryz.prog 84 #[.pointer (some ⟨p.b,0,none⟩),.pointer (some ⟨p.q,0,none⟩)] w (NOP (.tuple #[]) c (n.settle c o).1 (n.settle c o).2 p K w):=by
 have NN:=AS hN
 have HL:=AS (And.intro hl hd)
 have PD:=AS (pending_any hN.1.2.2.2.2.1)
 have hset:n.settle c o=if n.cpu.busy=true then (if (n.lines.doIt c n.cpu.op).2.2=true then ({ n with lines:=(n.lines.doIt c n.cpu.op).1,cpu:=n.cpu.finish.1 }:S.Node).end_ c n.cpu.op.block { o with done:=o.done ++ [(⟨n.id,n.cpu.finish.2.1,n.cpu.op,(n.lines.doIt c n.cpu.op).2.1,0⟩:S.Done)]} else (n,o)) else (n,o):=by
  unfold Node.settle
  cases n.cpu.busy <;> simp
  cases (n.lines.doIt c n.cpu.op).2.2 <;> simp
 generalize n.settle c o=R at *
 have HR:=AS hset
 have CE:=AS (show ∀ (n':S.Node) (W':Go.World),n'.id=n.id->W'.heap[p.b]?=some (.cells (nodeC c n' p) 133 (0,0))->W'.cell? ⟨p.b,2,none⟩=some (.int .i64 c.tokens)/\W'.cell? ⟨p.b,9,none⟩=some (.int .i64 n.id)/\W'.cell? ⟨p.b,10,none⟩=some (.pointer (some ⟨p.bc,0,none⟩))/\W'.cell? ⟨p.b,12,none⟩=some (.pointer (some ⟨p.bp,0,none⟩)) from fun n' W' hi h=>⟨cw h 2,by rw[<- hi];exact(cw h 9),cw h 10,cw h 12⟩)
 clear hset hN hl hd
 have HOP:=AS (show n.cpu.op=n.cpu.op from rfl)
 generalize hop:n.cpu.op=op at *
 obtain⟨ob,ow,ov⟩:=op
 have PD':=AS (show Calls Tryz.prog 69 #[.pointer (some ⟨p.bp,0,none⟩)] w (RV (.tuple #[.agg #[.int .i64 ob,.bool ow,.int .i64 ov],.bool n.cpu.busy]) w) from PD.out)
 clear PD HOP
 generalize n.cpu.busy=busy at *
 generalize hpb:p.b=pb at *
 have e12:w.cell? ⟨pb,12,none⟩=some (.pointer (some ⟨p.bp,0,none⟩)):=by have h11:=NN.out.1.1;rw[hpb] at h11;exact(CE.out n _ rfl h11).2.2.2
 go_enter Tryz.func84,Tryz.ntmps84
 go_wp2_with fail
 refine PD'.out.mono ?_
 rintro e w2 ⟨rfl,hb2⟩
 have N2:=AS ((NS.refl NN.out).below hb2)
 clear hb2 PD' e12
 cases busy
 case false =>
  have hr:=HR.out
  replace hr:=hr.trans (if_neg (by simp))
  subst hr
  go_wp2
  go_end0
  exact NOP.ns rfl (N2.out.box _).ns
 case true =>
  have hr:=HR.out.trans (if_pos rfl)
  have HR2:=AS hr
  clear hr HR
  go_upto_region 2 with fail
  have N3:=AS (N2.out.box (.cells #[.int .i64 ob,.bool ow,.int .i64 ov] 50))
  clear N2
  generalize hg:w2.heap.size=g at *
  generalize w2.alloc (.cells #[.int .i64 ob,.bool ow,.int .i64 ov] 50)=W at N3 ⊢
  have e2:W.cell? ⟨pb,2,none⟩=some (.int .i64 c.tokens):=by obtain⟨K1,-,h,-,-⟩:=N3.out;have h11:=h.1.1;rw[hpb] at h11;exact(CE.out n _ rfl h11).1
  have e10:W.cell? ⟨pb,10,none⟩=some (.pointer (some ⟨p.bc,0,none⟩)):=by obtain⟨K1,-,h,-,-⟩:=N3.out;have h11:=h.1.1;rw[hpb] at h11;exact(CE.out n _ rfl h11).2.2.1
  have b0:W.cell? ⟨g,0,none⟩=some (.int .i64 ob):=by obtain⟨K1,-,h,-,-,h2⟩:=N3.out;exact(cw h2 0)
  have b1:W.cell? ⟨g,1,none⟩=some (.bool ow):=by obtain⟨K1,-,h,-,-,h2⟩:=N3.out;exact(cw h2 1)
  have b2:W.cell? ⟨g,2,none⟩=some (.int .i64 ov):=by obtain⟨K1,-,h,-,-,h2⟩:=N3.out;exact(cw h2 2)
  have TB:=AS ((N3.out.below (Below.drew (Below.refl _ W))).call (fun K1 h=>h.cacDo ob ow ov))
  have DN:=AS (doIt_no (c:=c) (s:=n.lines) (op:=⟨ob,ow,ov⟩))
  generalize n.lines.doIt c ⟨ob,ow,ov⟩=dr at *
  obtain⟨ds,dv,dk⟩:=dr
  go_cut [4,5,6] (fun v4 v5 v6 wx=>v4=.pointer (some ⟨g,0,none⟩)/\v5=.bool dk/\v6=.int .i64 dv/\NG c { n with lines:=ds } o p K w g (.cells #[.int .i64 ob,.bool ow,.int .i64 ov] 50) wx)
  case first =>
   go_region_with (go_at_call 110;refine TB.out.mono ?_;rintro e w3 ⟨rfl,h3⟩;have S3:=AS h3;clear h3)
   all_goals
    go_wp2_with fail
    go_meet
    exact⟨rfl,rfl,rfl,S3.out⟩
  case rest =>
   obtain⟨rfl,rfl,rfl,hcut⟩:=hcut
   have N4:=AS hcut
   clear hcut TB e2 e10 b0 b1 b2 N3
   cases dk
   case false =>
    have hr:=HR2.out.trans (if_neg (by simp))
    subst hr
    have hds:=DN.out rfl
    simp only at hds
    subst hds
    go_wp2
    go_end0
    exact NOP.ns rfl N4.out.ns
   case true =>
    have hr:=HR2.out.trans (if_pos rfl)
    have HR3:=AS hr
    clear hr HR2 DN
    have e12:wc.cell? ⟨pb,12,none⟩=some (.pointer (some ⟨p.bp,0,none⟩)):=by obtain⟨K1,-,h,-,-⟩:=N4.out;have h11:=h.1.1;rw[hpb] at h11;exact(CE.out _ _ rfl h11).2.2.2
    have FC:=AS (N4.out.call (fun K1 h=>h.finish))
    simp only at FC
    generalize n.cpu.finish=fin at *
    obtain⟨fp,fk,fb⟩:=fin
    go_wp2_with fail
    refine FC.out.mono ?_
    rintro e w5 ⟨rfl,h5⟩
    have N5:=AS h5
    clear h5 FC N4 e12
    go_upto_region 5 with fail
    have e9:w5.cell? ⟨pb,9,none⟩=some (.int .i64 n.id):=by obtain⟨K1,-,h,-,-⟩:=N5.out;have h11:=h.1.1;rw[hpb] at h11;exact(CE.out _ _ rfl h11).2.1
    have b0:w5.cell? ⟨g,0,none⟩=some (.int .i64 ob):=by obtain⟨K1,-,h,-,-,h2⟩:=N5.out;exact(cw h2 0)
    have b1:w5.cell? ⟨g,1,none⟩=some (.bool ow):=by obtain⟨K1,-,h,-,-,h2⟩:=N5.out;exact(cw h2 1)
    have b2:w5.cell? ⟨g,2,none⟩=some (.int .i64 ov):=by obtain⟨K1,-,h,-,-,h2⟩:=N5.out;exact(cw h2 2)
    obtain⟨K5,ha5,hN5,hk5,hg5,hgo5⟩:=N5.out
    obtain⟨⟨vl,vd⟩,hq1,hq2,hq3,hfin⟩:=hN5.2.addDone ⟨n.id,fk,⟨ob,ow,ov⟩,dv,0⟩
    simp only at hq1 hq2 hq3 hfin
    obtain⟨A,cp,hv,-⟩:=hq2.row
    subst hv
    have hsz5:=hk5.size
    have FIN:=AS (show ∀ w1 v',KS (fun x=>x∈foot (.slice A o.done.length cp)) w5 w1->OwnE doneE v' (o.done ++ [⟨n.id,fk,⟨ob,ow,ov⟩,dv,0⟩]) w1->(∀ x∈foot v',x∈foot (.slice A o.done.length cp)∨w5.heap.size≤x)->NG c { n with lines:=ds,cpu:=fp } { o with done:=o.done ++ [⟨n.id,fk,⟨ob,ow,ov⟩,dv,0⟩]} p K w g (.cells #[.int .i64 ob,.bool ow,.int .i64 ov] 50) (w1.setCell ⟨p.q,1,none⟩ v') from by
     intro w1 v' h1 h2 h3
     obtain⟨h4,h5⟩:=hfin w1 v' h1 h2 h3
     obtain⟨K6,hb,hN6,hk6⟩:=NO.outK hN5 h4 h5
     exact⟨K6,fun x hx=>(hb x (by omega)).trans (ha5 x hx),hN6,hk5.trans hk6 (fun x hx h=>by rw[<- ha5 x hx];exact h),(hb g (blk_lt hgo5)).trans hg5,hk6.at_ hgo5 (by show ¬ K5 g≤6;omega)⟩)
    have OA:=AS (show OwnE doneE (.slice A o.done.length cp) o.done ((w5.alloc (.cells #[.int .i64 n.id,.int .i64 fk,.int .i64 ob,.bool ow,.int .i64 ov,.int .i64 dv,.int .i64 0] 59)).drew) from hq2.ks (KS.below (fun _=>False) (Below.drew (below_alloc (Below.refl _ _) _))) (fun _ _=>id))
    have RA:=AS (rowE_one (E:=doneE) (x:=⟨n.id,fk,⟨ob,ow,ov⟩,dv,0⟩) (blk_drew (blk_new w5 (.cells #[.int .i64 n.id,.int .i64 fk,.int .i64 ob,.bool ow,.int .i64 ov,.int .i64 dv,.int .i64 0] 59))))
    have X:=AS (And.intro hq1 hq3)
    have c0:=cw hq1 1 (v:=.slice A o.done.length cp)
    clear ha5 hN5 hk5 hg5 hgo5 hq1 hq2 hq3 hfin hsz5
    go_cut [4] (fun v4 wx=>v4=.pointer (some ⟨g,0,none⟩)/\NG c { n with lines:=ds,cpu:=fp } { o with done:=o.done ++ [⟨n.id,fk,⟨ob,ow,ov⟩,dv,0⟩]} p K w g (.cells #[.int .i64 ob,.bool ow,.int .i64 ov] 50) wx)
    case first =>
     go_region_law (first | (refine step_appE (E:=doneE) (xs:=o.done) (ys:=[⟨n.id,fk,⟨ob,ow,ov⟩,dv,0⟩]) (by kernel_rfl) _ _ rfl rfl rfl rfl (by exact OA.out) (by exact RA.out) (by have:=HL.out.2;show _ * 56≤_;simp;omega) ?_;intro v1 w1 hO hK hf;have KK:=AS (show KS (fun x=>x∈foot (.slice A o.done.length cp)) w5 w1 from(KS.below _ (Below.drew (below_alloc (Below.refl _ _) (.cells #[.int .i64 n.id,.int .i64 fk,.int .i64 ob,.bool ow,.int .i64 ov,.int .i64 dv,.int .i64 0] 59)))).trans (KS.keeps hK) (fun _ _ h=>h));have hfin:=FIN.out w1 v1 KK.out hO (by intro x hx;rcases hf with e | e;exact .inl (by rw[e] at hx;exact hx);exact .inr (by rw[e] at hx;simp[World.drew] at hx;omega));have FI:=AS hfin;have Y1:=AS (KK.out.at_ X.out.1 X.out.2);obtain⟨A1,n1,k1,rfl⟩:∃ A n c,v1=.slice A n c:=(by obtain⟨A,c,h,_⟩:=OwnE.row hO;exact⟨_,_,_,h⟩);clear hfin hO hK hf;have y2:=blk_frozen Y1.out 1;have y3:w1.cell? ⟨p.q,1,none⟩=some (.slice A o.done.length cp):=cw Y1.out 1))
     all_goals
      go_wp2_with fail
      go_meet
      exact⟨rfl,FI.out⟩
    case rest =>
     obtain⟨rfl,hcut⟩:=hcut
     have N6:=AS hcut
     clear hcut FIN OA RA X c0 e9 b0 b1 b2 N5
     have b0:wc.cell? ⟨g,0,none⟩=some (.int .i64 ob):=by obtain⟨K1,-,h,-,-,h2⟩:=N6.out;exact(cw h2 0)
     have EN:=AS (N6.out.call (fun K1 h=>nodeEnd_any h HL.out.1 ob))
     rw[hpb] at EN
     have hr:=HR3.out
     go_wp2_with fail
     refine EN.out.mono ?_
     rintro e w7 ⟨rfl,h7⟩
     have N7:=AS h7
     clear h7 EN
     go_wp2
     go_end0
     rw[hr]
     exact NOP.ns rfl N7.out.ns
end Go.Proofs.YtiebppkhaiofeaaGreat.K
