/- Part of the proof of TopStarver: what functions of the program do. -/
import Derived.Lib.SmallJoins
import Derived.OpenShut
import Derived.Carry
import Derived.Deep.Fields
import Derived.Lib.SliceRun
import Derived.Test.YtiebppkhaiofeaaGreatS03
set_option maxHeartbeats 4000000
set_option maxRecDepth 100000
set_option linter.unusedVariables false
set_option linter.unusedSimpArgs false
namespace Go.Proofs.YtiebppkhaiofeaaGreat.Opens
open Go.Joins Go.ChangeShapes Go.WideShapes Go.RowKit Go.Deep Go.Proofs.YtiebppkhaiofeaaGreat.K Go.Proofs.YtiebppkhaiofeaaGreat.S
section
variable {H:Type} {enc:TypeId×Value->H} {P:Program} {w:Go.World} {base:Nat} {spare:Nat->Bool} {held:Bool}
theorem open_agg9' {r:Reach} {b0:Nat} {t:TypeId} {f0 f1 f2 f3 f4 f5 f6 f7 f8:Field} {v:Value} {d:DataW H} {p:List MemPlace} (hs:P.underlying t=some (.struct #[f0,f1,f2,f3,f4,f5,f6,f7,f8])) (hone:oneCellFields P #[f0,f1,f2,f3,f4,f5,f6,f7,f8]=true) (hC:P.cellsOf t=9)
  (hv:Value.okWide P w r b0 t v) (h:DataW.Trod enc P w base spare held t v d p) :
  ∃ (v0 v1 v2 v3 v4 v5 v6 v7 v8:Value) (y0 y1 y2 y3 y4 y5 y6 y7 y8:DataW H×List MemPlace) (n:Nat),v=.agg #[v0,v1,v2,v3,v4,v5,v6,v7,v8]/\d=.agg [y0.1,y1.1,y2.1,y3.1,y4.1,y5.1,y6.1,y7.1,y8.1]/\p=y0.2 ++ (y1.2 ++ (y2.2 ++ (y3.2 ++ (y4.2 ++ (y5.2 ++ (y6.2 ++ (y7.2 ++ y8.2))))))) /\
   DataW.trod enc P w base spare held n f0.type [v0]=some y0/\DataW.trod enc P w base spare held n f1.type [v1]=some y1/\DataW.trod enc P w base spare held n f2.type [v2]=some y2/\DataW.trod enc P w base spare held n f3.type [v3]=some y3/\DataW.trod enc P w base spare held n f4.type [v4]=some y4/\DataW.trod enc P w base spare held n f5.type [v5]=some y5/\DataW.trod enc P w base spare held n f6.type [v6]=some y6/\DataW.trod enc P w base spare held n f7.type [v7]=some y7/\DataW.trod enc P w base spare held n f8.type [v8]=some y8:=by
 obtain⟨cs,rfl,hsz⟩:=okWide_struct hs hv
 obtain⟨l⟩:=cs
 match l,hsz.trans hC with
 | [c0,c1,c2,c3,c4,c5,c6,c7,c8],_ =>
  obtain⟨fuel,hf⟩:=h
  obtain⟨xs,n,_,hx,_,hlen,hg⟩:=DataW.trod_struct hs hf
  obtain⟨o0,k0⟩:=hone_of hone 0 f0 rfl
  obtain⟨o1,k1⟩:=hone_of hone 1 f1 rfl
  obtain⟨o2,k2⟩:=hone_of hone 2 f2 rfl
  obtain⟨o3,k3⟩:=hone_of hone 3 f3 rfl
  obtain⟨o4,k4⟩:=hone_of hone 4 f4 rfl
  obtain⟨o5,k5⟩:=hone_of hone 5 f5 rfl
  obtain⟨o6,k6⟩:=hone_of hone 6 f6 rfl
  obtain⟨o7,k7⟩:=hone_of hone 7 f7 rfl
  obtain⟨o8,k8⟩:=hone_of hone 8 f8 rfl
  match xs,hlen with
  | [y0,y1,y2,y3,y4,y5,y6,y7,y8],_ =>
   simp only[Prod.mk.injEq] at hx
   exact⟨c0,c1,c2,c3,c4,c5,c6,c7,c8,y0,y1,y2,y3,y4,y5,y6,y7,y8,n,rfl,by simpa using hx.1,by simpa using hx.2,by simpa [Value.cells,o0,k0] using hg 0 f0 rfl,by simpa [Value.cells,o1,k1] using hg 1 f1 rfl,by simpa [Value.cells,o2,k2] using hg 2 f2 rfl,by simpa [Value.cells,o3,k3] using hg 3 f3 rfl,by simpa [Value.cells,o4,k4] using hg 4 f4 rfl,by simpa [Value.cells,o5,k5] using hg 5 f5 rfl,by simpa [Value.cells,o6,k6] using hg 6 f6 rfl,by simpa [Value.cells,o7,k7] using hg 7 f7 rfl,by simpa [Value.cells,o8,k8] using hg 8 f8 rfl⟩
theorem open_cfg {r:Reach} {b0:Nat} {v:Value} {d:DataW H} {p:List MemPlace} (hv:Value.okWide Tryz.prog w r b0 23 v) (h:DataW.Trod enc Tryz.prog w base spare held 23 v d p) :
  ∃ (x0:Int) (x1:Int) (x2:Int) (x3:Int) (x4:Int) (x5:Int) (x6:Int) (x7:Int) (x8:Int),v=.agg #[.int .i64 x0,.int .i64 x1,.int .i64 x2,.int .i64 x3,.int .i64 x4,.int .i64 x5,.int .i64 x6,.int .i64 x7,.int .i64 x8]/\p=[]/\(Lit.int .i64 x0).wf=true/\(Lit.int .i64 x1).wf=true/\(Lit.int .i64 x2).wf=true/\(Lit.int .i64 x3).wf=true/\(Lit.int .i64 x4).wf=true/\(Lit.int .i64 x5).wf=true/\(Lit.int .i64 x6).wf=true/\(Lit.int .i64 x7).wf=true/\(Lit.int .i64 x8).wf=true:=by
 obtain⟨v0,v1,v2,v3,v4,v5,v6,v7,v8,y0,y1,y2,y3,y4,y5,y6,y7,y8,m,rfl,-,hp,h0,h1,h2,h3,h4,h5,h6,h7,h8⟩:=open_agg9' Tryz.underlying23 (by kernel_rfl) (by kernel_rfl) hv h
 obtain⟨x0,e0,rfl,w0⟩:=DataW.trod_int (k:=.i64) (by kernel_rfl) h0
 obtain⟨x1,e1,rfl,w1⟩:=DataW.trod_int (k:=.i64) (by kernel_rfl) h1
 obtain⟨x2,e2,rfl,w2⟩:=DataW.trod_int (k:=.i64) (by kernel_rfl) h2
 obtain⟨x3,e3,rfl,w3⟩:=DataW.trod_int (k:=.i64) (by kernel_rfl) h3
 obtain⟨x4,e4,rfl,w4⟩:=DataW.trod_int (k:=.i64) (by kernel_rfl) h4
 obtain⟨x5,e5,rfl,w5⟩:=DataW.trod_int (k:=.i64) (by kernel_rfl) h5
 obtain⟨x6,e6,rfl,w6⟩:=DataW.trod_int (k:=.i64) (by kernel_rfl) h6
 obtain⟨x7,e7,rfl,w7⟩:=DataW.trod_int (k:=.i64) (by kernel_rfl) h7
 obtain⟨x8,e8,rfl,w8⟩:=DataW.trod_int (k:=.i64) (by kernel_rfl) h8
 simp only[List.cons.injEq,and_true] at e0 e1 e2 e3 e4 e5 e6 e7 e8
 subst e0 e1 e2 e3 e4 e5 e6 e7 e8
 exact⟨x0,x1,x2,x3,x4,x5,x6,x7,x8,rfl,by simpa using hp,w0,w1,w2,w3,w4,w5,w6,w7,w8⟩
theorem open_rowE {α:Type} (E:El α) {t:TypeId} {cs:List Value} {fuel:Nat} {x:DataW H×List MemPlace} (ht:P.underlying t=some (.slice E.T)) (hsz:P.cellsOf E.T=E.k)
  (leaf:∀ n cs y,DataW.trod enc P w base spare held n E.T cs=some y->∃ p:α,cs=E.f p) (h:DataW.trod enc P w base spare held fuel t cs=some x) :
  ∃ a cap,∃ xs:List α,cs=[.slice a xs.length cap]/\xs.length≤cap/\cap≤maxLen/\RowE E w a xs:=by
 rcases open_slice ht h with ⟨hcs,_⟩ | ⟨ad,len',cap',m,n,D,Pl,hcs,_,hl,hm,hmm,_,hx⟩
 ·exact⟨none,0,[],by simpa using hcs,Nat.le_refl _,Nat.zero_le _,fun i hi=>by simp at hi⟩
 ·have hlm:len'≤m:=by rw[hmm];split <;> omega
  have key:∀ i,i < len'->∃ p:α,∀ j,j < E.k->w.cell? (ad.add (i * E.k+j))=(E.f p)[j]?:=by
   intro i hi
   obtain⟨cs',hc,htr⟩:=hx i (by omega)
   obtain⟨p,rfl⟩:=leaf _ _ _ htr
   rw[hsz] at hc
   obtain⟨_,_,hat⟩:=World.cells?_some hc
   exact⟨p,fun j hj=>by rw[<- Go.Deep.add_add];exact hat j hj⟩
  have e0:∀ i (hi:i < len'),((List.range len').map fun i=>if h:i < len' then Classical.choose (key i h) else E.d).getD i E.d=Classical.choose (key i hi):=fun i hi=>by
   simp[List.getD_eq_getElem?_getD,hi]
  refine⟨some ad,cap',(List.range len').map fun i=>if h:i < len' then Classical.choose (key i h) else E.d,by simpa using hcs,by simpa using hl,hm,fun i hi=>?_⟩
  simp at hi
  exact⟨ad,rfl,fun j hj=>by rw[e0 i hi];exact Classical.choose_spec (key i hi) j hj⟩
theorem leaf33 (n:Nat) (cs:List Value) (y:DataW H×List MemPlace) (h:DataW.trod enc Tryz.prog w base spare held n 33 cs=some y):∃ p:Ent,cs=entE.f p:=by
 obtain⟨xs,m,_,_,hl,hlen,hg⟩:=DataW.trod_struct Tryz.underlying33 h
 have hC:Tryz.prog.cellsOf 33=5:=by kernel_rfl
 have k3:Tryz.prog.cellsOf 3=1:=by kernel_rfl
 have k2:Tryz.prog.cellsOf 2=1:=by kernel_rfl
 rw[hC] at hl
 match cs,hl with
 | [a0,a1,a2,a3,a4],_ =>
  match xs,hlen with
  | [y0,y1,y2,y3,y4],_ =>
   have h0:=hg 0 _ rfl
   have h1:=hg 1 _ rfl
   have h2:=hg 2 _ rfl
   have h3:=hg 3 _ rfl
   have h4:=hg 4 _ rfl
   simp[k3,k2] at h0 h1 h2 h3 h4
   obtain⟨x0,e0,_,_⟩:=DataW.trod_int (k:=.i64) (by kernel_rfl) h0
   obtain⟨x1,e1,_,_⟩:=DataW.trod_int (k:=.i64) (by kernel_rfl) h1
   obtain⟨x2,e2,_,_⟩:=DataW.trod_int (k:=.i64) (by kernel_rfl) h2
   obtain⟨x3,e3,_,_⟩:=DataW.trod_int (k:=.i64) (by kernel_rfl) h3
   obtain⟨x4,e4,_,_⟩:=DataW.trod_int (k:=.i64) (by kernel_rfl) h4
   simp at e0 e1 e2 e3 e4
   subst e0 e1 e2 e3 e4
   exact⟨⟨x0,x1,x2,x3,x4⟩,rfl⟩
end
theorem laid:laidOutB Tryz.prog=true:=by kernel_rfl
theorem kept {H:Type} {enc:TypeId×Value->H} {t:TypeId} (hr:Tryz.prog.readableRec t=true) (hrow:t < Tryz.prog.types.size) {W W':Go.World} {v:Value} {d:DataW H} {ps:List MemPlace}
  (h:DataW.Trod enc Tryz.prog W 0 (fun _=>true) true t v d ps) (hb:Below W.heap.size W W') (hp:ps=[]) :
  DataW.Trod enc Tryz.prog W' 0 (fun b=>decide (b < W.heap.size)) true t v d ps :=
 Below.trod laid hr hrow h hb (by subst hp;simp)
end Go.Proofs.YtiebppkhaiofeaaGreat.Opens
namespace Go.Proofs.YtiebppkhaiofeaaGreat.K
open Go.RowKit Go.Proofs.YtiebppkhaiofeaaGreatW.PrintWords Go.Proofs.YtiebppkhaiofeaaGreat.S
def NewRow {α:Type} (E:El α) (xs:List α) (w:Go.World) (e:Ending) (w':Go.World):Prop:=∃ v,e=.returned v/\OwnE E v xs w'/\(∀ x∈foot v,w.heap.size≤x)/\Below w.heap.size w w'
section
variable {α:Type} {E:El α} {ops:Array Oper} {rest:List Oper} {o:Oper} {a:Go.Act} {w:Go.World}
theorem cells_cyc (c:Array Value):List.map (fun i=>c[i % c.size]!) (List.range c.size)=c.toList:=by
 refine List.ext_getElem (by simp) fun i h1 h2=>?_
 have h3:i < c.size:=by simpa using h2
 simp[Nat.mod_eq_of_lt h3,getElem!_pos c i h3]
theorem list_clearE {Q:Exit->Go.Act->Go.World->Prop} (hgd:o.guard=none) (x:Operand)
  (ho:o.op=.call { callee:=.builtin .clear,args:=#[x],argTypes:=#[E.S]}) {g q m c:Nat} {cur:Array Value}
  (hx:a.eval x=.slice (some ⟨g,q,none⟩) m c) (hm:m=1) (hg:w.heap[g]?=some (.cells cur E.T (0,0))) (hfit:q+E.k≤cur.size)
  (h:∀ cur':Array Value,cur'.size=cur.size->cur'.toList.take q=cur.toList.take q->wpList Tryz.prog ops Q rest (a.put o.dst (.tuple #[])) (w.setRow g cur')):wpList Tryz.prog ops Q (o :: rest) a w:=by
 refine wpList_plain hgd fun K hK=>?_
 subst hm
 obtain⟨i0,hi,hz0,hz1,hz2⟩:=info_parts E.info
 have hst:=run_storeCells_at Tryz.prog g q E.T (E.f E.d) 0 cur w hg (by rw[E.len];omega) (E.one _)
 have hzv:(zeroValue E.T).run Tryz.prog w=.ok E.z w:=by simp[zeroValue,typeInfo,hi,hz0]
 have hzc:(Builtin.zeroCells E.z.cells 1).toList=E.f E.d:=by have h:=cells_cyc E.z.cells;rw[E.hz] at h;simp only[Builtin.zeroCells,Nat.one_mul];simpa using h
 simp only[Nat.add_zero] at hst
 have hr:(Builtin.clear_ #[E.S] o.type #[.slice (some ⟨g,q,none⟩) 1 c]).run Tryz.prog w=.ok (.tuple #[]) (w.setRow g (cur.toList.take q ++ E.f E.d ++ cur.toList.drop (q+(E.f E.d).length)).toArray):=by
  simp[Builtin.clear_,run_underlying E.hS,hzv,hzc,hst]
 unfold Oper.wp execOp
 simp only[ho,resolve,invoke,builtin,Sem.run_bind,Sem.run_pure,Result.andThen_ok,List.map_toArray,List.map_cons,List.map_nil,hx,hr]
 refine hK _ _ (h _ ?_ ?_)
 ·simp only[List.size_toArray,List.length_append,List.length_take,List.length_drop,Array.length_toList,E.len];omega
 ·simp only[List.append_assoc]
  rw[List.take_left' (by simp only[List.length_take,Array.length_toList];omega)]
theorem step_delE {K:Go.Act->Go.World->Prop} {Q:Exit->Go.Act->Go.World->Prop} {D:Prop} (hgd:o.guard=none) (s x:Operand)
  (ho:o.op=.call { callee:=.builtin .append,args:=#[s,x],argTypes:=#[E.S,E.S]}) {g i m cap c:Nat} {cur:Array Value} {ad:Addr} {ys:List α}
  (hs:a.eval s=.slice (some ⟨g,0,none⟩) i cap) (hx:a.eval x=.slice (some ad) m c) (hm:m=ys.length) (hR:∀ j u,(flat E ys)[j]?=some u->w.cell? (ad.add j)=some u)
  (hg:w.heap[g]?=some (.cells cur E.T (0,0))) (hroom:i+ys.length≤cap) (hcs:cur.size=cap * E.k)
  (h:∀ cur':Array Value,cur'.size=cap * E.k->cur'.toList.take ((i+ys.length) * E.k)=cur.toList.take (i * E.k) ++ flat E ys->K (a.put o.dst (.slice (some ⟨g,0,none⟩) (i+ys.length) cap)) (w.setRow g cur')) :
  if Region.wanted o (yielded ops a.tmps)=true then Oper.wp Tryz.prog o a w K Q else D:=by
 have hw:Region.wanted o (yielded ops a.tmps)=true:=by simp[Region.wanted,hgd]
 rw[if_pos hw]
 subst hm
 obtain⟨i0,hi,hz0,hz1,hz2⟩:=info_parts E.info
 have hle:(i+ys.length) * E.k≤cap * E.k:=Nat.mul_le_mul_right _ hroom
 rw[Nat.add_mul] at hle
 have hr:=run_append_room (P:=Tryz.prog) w E.S o.type E.T i0 E.hS hi g i cap cur hg ad ys.length c (flat E ys) (by rw[hz1];exact flat_len E ys) hR (flat_one E ys) hroom (by rw[hz1,flat_len,hcs];omega)
 rw[hz1] at hr
 unfold Oper.wp execOp
 simp only[ho,resolve,invoke,builtin,Sem.run_bind,Sem.run_pure,Result.andThen_ok,List.map_toArray,List.map_cons,List.map_nil,hs,hx,hr]
 refine h _ ?_ ?_
 ·simp only[List.size_toArray,List.length_append,List.length_take,List.length_drop,Array.length_toList,flat_len];omega
 ·show List.take _ (_ ++ _ ++ _)=_
  rw[List.take_left' (by simp only[List.length_append,List.length_take,Array.length_toList,flat_len];rw[Nat.add_mul];omega)]
end
theorem nilE {α:Type} (E:El α) (w:Go.World) (a:Option Addr) (n c:Nat):(binOp .eql E.S (.slice a n c) (.slice none 0 0)).run Tryz.prog w=.ok (.bool a.isNone) w:=Lib.run_eql_slice_nil w E.S E.T a n c 0 0 E.hS
theorem nil39 (w:Go.World) (a:Option Addr) (n c:Nat):(binOp .eql 39 (.slice a n c) (.slice none 0 0)).run Tryz.prog w=.ok (.bool a.isNone) w:=nilE letE w a n c
theorem nil170 (w:Go.World) (a:Option Addr) (n c:Nat):(binOp .eql 170 (.slice a n c) (.slice none 0 0)).run Tryz.prog w=.ok (.bool a.isNone) w:=nilE arowE w a n c
theorem nil57 (w:Go.World) (a:Option Addr) (n c:Nat):(binOp .eql 57 (.slice a n c) (.slice none 0 0)).run Tryz.prog w=.ok (.bool a.isNone) w:=nilE intE w a n c
attribute [local go_sem] nil39 nil170 nil57
theorem cloneL_any {A:Option Addr} {xs:List Let} {c:Nat} {w:Go.World} (hR:RowE letE w A xs) (hn:A=none->xs=[]) (hlen:xs.length * letE.bys≤140737488355328) :
  Calls Tryz.prog 66 #[.slice A xs.length c] w (NewRow letE xs w):=by
 have R:=AS hR
 clear hR
 cases A with
 | none =>
  obtain rfl:=hn rfl
  go_enter Tryz.func66,Tryz.ntmps66
  go_wp2
  go_ret
  exact⟨_,rfl,OwnE.nil _,by simp[foot_nil],Below.refl _ _⟩
 | some ad =>
  clear hn
  have O:=AS (OwnE.made (E:=letE) w)
  have R2:=AS (RowE.below R.out (below_alloc (Below.refl _ _) (.cells #[] letE.T)))
  go_enter Tryz.func66,Tryz.ntmps66
  go_wp2_with (at_builtin;refine list_appE (E:=letE) (xs:=[]) (ys:=xs) (by kernel_rfl) _ _ rfl rfl rfl rfl (by exact O.out) (by exact R2.out) (by simpa using hlen) ?_;intro v1 w1 hO hK hf;have O1:=AS hO;have K1:Aside0 (Keeps [w.heap.size] (w.alloc (.cells #[] letE.T)) w1):=⟨hK⟩;have F1:Aside0 (foot v1=[w.heap.size]∨foot v1=[w.heap.size+1]):=⟨hf.imp (fun e=>e) (fun e=>e.trans (by simp))⟩;clear hO hK hf)
  go_ret
  refine⟨v1,rfl,by simpa using O1.out,?_,?_⟩
  ·intro x hx
   rcases F1.out with e | e
   ·rw[e] at hx;simp at hx;omega
   ·rw[e] at hx;simp at hx;omega
  ·exact(below_alloc (Below.refl _ _) _).trans (K1.out.toBelow (by intro x hx;simp at hx;omega) (by simp))
theorem cloneI_any {A:Option Addr} {xs:List Int} {c:Nat} {w:Go.World} (hR:RowE intE w A xs) (hn:A=none->xs=[]) (hlen:xs.length * intE.bys≤140737488355328) :
  Calls Tryz.prog 104 #[.slice A xs.length c] w (NewRow intE xs w):=by
 have R:=AS hR
 clear hR
 cases A with
 | none =>
  obtain rfl:=hn rfl
  go_enter Tryz.func104,Tryz.ntmps104
  go_wp2
  go_ret
  exact⟨_,rfl,OwnE.nil _,by simp[foot_nil],Below.refl _ _⟩
 | some ad =>
  clear hn
  have O:=AS (OwnE.made (E:=intE) w)
  have R2:=AS (RowE.below R.out (below_alloc (Below.refl _ _) (.cells #[] intE.T)))
  go_enter Tryz.func104,Tryz.ntmps104
  go_wp2_with (at_builtin;refine list_appE (E:=intE) (xs:=[]) (ys:=xs) (by kernel_rfl) _ _ rfl rfl rfl rfl (by exact O.out) (by exact R2.out) (by simpa using hlen) ?_;intro v1 w1 hO hK hf;have O1:=AS hO;have K1:Aside0 (Keeps [w.heap.size] (w.alloc (.cells #[] intE.T)) w1):=⟨hK⟩;have F1:Aside0 (foot v1=[w.heap.size]∨foot v1=[w.heap.size+1]):=⟨hf.imp (fun e=>e) (fun e=>e.trans (by simp))⟩;clear hO hK hf)
  go_ret
  refine⟨v1,rfl,by simpa using O1.out,?_,?_⟩
  ·intro x hx
   rcases F1.out with e | e
   ·rw[e] at hx;simp at hx;omega
   ·rw[e] at hx;simp at hx;omega
  ·exact(below_alloc (Below.refl _ _) _).trans (K1.out.toBelow (by intro x hx;simp at hx;omega) (by simp))
theorem cloneR_any {A:Option Addr} {xs:List ARowR} {c:Nat} {w:Go.World} (hR:RowE arowE w A xs) (hn:A=none->xs=[]) (hlen:xs.length * arowE.bys≤140737488355328) :
  Calls Tryz.prog 103 #[.slice A xs.length c] w (NewRow arowE xs w):=by
 have R:=AS hR
 clear hR
 cases A with
 | none =>
  obtain rfl:=hn rfl
  go_enter Tryz.func103,Tryz.ntmps103
  go_wp2
  go_ret
  exact⟨_,rfl,OwnE.nil _,by simp[foot_nil],Below.refl _ _⟩
 | some ad =>
  clear hn
  have O:=AS (OwnE.made (E:=arowE) w)
  have R2:=AS (RowE.below R.out (below_alloc (Below.refl _ _) (.cells #[] arowE.T)))
  go_enter Tryz.func103,Tryz.ntmps103
  go_wp2_with (at_builtin;refine list_appE (E:=arowE) (xs:=[]) (ys:=xs) (by kernel_rfl) _ _ rfl rfl rfl rfl (by exact O.out) (by exact R2.out) (by simpa using hlen) ?_;intro v1 w1 hO hK hf;have O1:=AS hO;have K1:Aside0 (Keeps [w.heap.size] (w.alloc (.cells #[] arowE.T)) w1):=⟨hK⟩;have F1:Aside0 (foot v1=[w.heap.size]∨foot v1=[w.heap.size+1]):=⟨hf.imp (fun e=>e) (fun e=>e.trans (by simp))⟩;clear hO hK hf)
  go_ret
  refine⟨v1,rfl,by simpa using O1.out,?_,?_⟩
  ·intro x hx
   rcases F1.out with e | e
   ·rw[e] at hx;simp at hx;omega
   ·rw[e] at hx;simp at hx;omega
  ·exact(below_alloc (Below.refl _ _) _).trans (K1.out.toBelow (by intro x hx;simp at hx;omega) (by simp))
theorem delL_any {g cap i:Nat} {xs:List Let} {w:Go.World} (hO:OwnE letE (.slice (some ⟨g,0,none⟩) xs.length cap) xs w) (hi:i < xs.length) :
  Calls Tryz.prog 63 #[.slice (some ⟨g,0,none⟩) xs.length cap,.int .i64 i,.int .i64 ((i:Int)+1)] w fun e w'=>e=.returned (.slice (some ⟨g,0,none⟩) (xs.length - 1) cap)/\OwnE letE (.slice (some ⟨g,0,none⟩) (xs.length - 1) cap) (xs.eraseIdx i) w'/\Keeps [g] w w':=by
 obtain⟨cur,hg,hnc,hcs,htk,hcm⟩:∃ cur:Array Value,w.heap[g]?=some (.cells cur letE.T (0,0))/\xs.length≤cap/\cur.size=cap * letE.k/\cur.toList.take (xs.length * letE.k)=flat letE xs/\cap≤9223372036854775807:=by
  rcases hO.cases with ⟨h,_⟩ | ⟨g',cap',cur,h,hg,hnc,hm,hcs,htk⟩
  ·simp at h
  ·simp at h
   obtain⟨rfl,rfl⟩:=h
   exact⟨cur,hg,hnc,hcs,htk,hm⟩
 have hrow:RowE letE w (some ⟨g,0,none⟩) xs:=by
  obtain⟨A,c,h,hr,_⟩:=OwnE.row hO
  simp at h
  rw[<- h.1] at hr
  exact hr
 have hlast:xs.length - (i+1)=(xs.drop (i+1)).length:=by simp
 have hi1:i+(xs.drop (i+1)).length=xs.length - 1:=by simp;omega
 have FIN:=AS (show ∀ cur1 cur2:Array Value,cur1.size=cap * letE.k->cur1.toList.take ((i+(xs.drop (i+1)).length) * letE.k)=cur.toList.take (i * letE.k) ++ flat letE (xs.drop (i+1))->cur2.size=cur1.size->cur2.toList.take ((xs.length - 1) * letE.k)=cur1.toList.take ((xs.length - 1) * letE.k) ->
   OwnE letE (.slice (some ⟨g,0,none⟩) (xs.length - 1) cap) (xs.eraseIdx i) ((w.drew.setRow g cur1).setRow g cur2)/\Keeps [g] w ((w.drew.setRow g cur1).setRow g cur2) from by
  intro cur1 cur2 h1 h2 h3 h4
  have hgd:w.drew.heap[g]?=some (.cells cur letE.T (0,0)):=hg
  have el:(xs.eraseIdx i).length=xs.length - 1:=by rw[List.length_eraseIdx_of_lt hi]
  refine⟨?_,⟨rfl,rfl,rfl,by simp,fun k hk hne=>?_⟩⟩
  ·have:=OwnE.mk (E:=letE) (xs:=xs.eraseIdx i) (W:=(w.drew.setRow g cur1).setRow g cur2) (g:=g) (cap:=cap) (cur:=cur2) (setRow_heap _ g cur1 cur2 letE.T (0,0) (setRow_heap _ g cur cur1 letE.T (0,0) hgd)) (by rw[el];omega) hcm (by omega) (by rw[el,h4,<- hi1,h2,List.eraseIdx_eq_take_drop_succ,flat_append,<- flat_take letE xs i (by omega),<- htk,List.take_take,Nat.min_eq_left (Nat.mul_le_mul_right _ (by omega))])
   rw[el] at this
   exact this
  ·have hk:k≠g:=fun e=>hne (by simp[e])
   exact(setRow_other _ g k _ hk).trans (setRow_other _ g k _ hk))
 have FIN0:=AS (show cap=i+1->∀ cur2:Array Value,cur2.size=cur.size->cur2.toList.take (i * letE.k)=cur.toList.take (i * letE.k) ->
   OwnE letE (.slice (some ⟨g,0,none⟩) i (i+1)) (xs.eraseIdx i) (w.drew.setRow g cur2)/\Keeps [g] w (w.drew.setRow g cur2) from by
  intro hc cur2 h3 h4
  have hx:xs.length=i+1:=by omega
  have:=FIN.out cur cur2 hcs (by rw[List.drop_eq_nil_of_le (by omega)];simp[flat]) h3 (by rw[hx];exact h4)
  rw[setRow_self w.drew g cur letE.T (0,0) hg,hx,hc] at this
  exact this)
 have G:=AS hg
 have R:=AS hrow
 have HL:=AS hlast
 have H1:=AS hi1
 clear hlast hi1
 have hcs':=AS hcs
 clear hO hrow hg htk hcs
 by_cases hc:cap=i+1
 ·have hx1:xs.length=i+1:=by omega
  have q1:(i:Int)≤(i:Int)+1:=by omega
  have q2:(0:Int)≤(i:Int):=by omega
  have q3:(i:Int)≤(cap:Int):=by omega
  have q4:(i:Int)+1≤(xs.length:Int):=by omega
  have q5:(0:Int)≤(i:Int)+1:=by omega
  have q6:(i:Int)+1≤(cap:Int):=by omega
  go_enter Tryz.func63,Tryz.ntmps63
  go_wp2_with fail
  go_region_law (fail)
  all_goals
   go_wp2_with (refine list_clearE (E:=letE) rfl _ rfl rfl (by omega) (by exact G.out) (by have h8:=hcs'.out;rw[h8,hc];show _+letE.k≤_ * letE.k;simp[letE];try omega) ?_;intro cur2 h3 h4;have K3:=AS h3;have K4:=AS h4;clear h3 h4)
   go_ret
   exact⟨by rw[hx1,hc];rfl,by have:=FIN0.out hc cur2 K3.out (by simpa [letE] using K4.out);rw[hx1,hc];exact this.1,(FIN0.out hc cur2 K3.out (by simpa [letE] using K4.out)).2⟩
 ·have hc2:i+1 < cap:=by omega
  have hno:Aside0 (∀ j u,(flat letE (xs.drop (i+1)))[j]?=some u->w.drew.cell? ((⟨g,(i+1) * letE.k,none⟩:Addr).add j)=some u):=⟨by
   intro j u hu
   have hj:=(List.getElem?_eq_some_iff.1 hu).1
   rw[<- flat_drop letE xs (i+1) (by omega),List.getElem?_drop] at hu
   have:=RowE.news R.out _ u hu
   rw[Addr.add_lit] at this ⊢
   simpa [Nat.add_assoc] using this⟩
  have q1:(i:Int)≤(i:Int)+1:=by omega
  have q2:(0:Int)≤(i:Int):=by omega
  have q3:(i:Int)≤(cap:Int):=by omega
  have q4:(i:Int)+1≤(xs.length:Int):=by omega
  have q5:(0:Int)≤(i:Int)+1:=by omega
  have q6:(i:Int)+1≤(cap:Int):=by omega
  go_enter Tryz.func63,Tryz.ntmps63
  go_wp2_with fail
  go_region_law (refine step_delE (E:=letE) rfl _ _ rfl rfl rfl (by have h9:=HL.out;omega) (by simpa [letE] using hno.out) (by exact G.out) (by have h9:=H1.out;omega) hcs'.out ?_;rw[H1.out];intro cur1 h1 h2;have K1:=AS h1;have K2:=AS h2;clear h1 h2)
  all_goals
   go_wp2_with (refine list_clearE (E:=letE) rfl _ rfl rfl (by omega) (setRow_heap _ g cur cur1 letE.T (0,0) (by exact G.out)) (by have h8:=K1.out;simp only[letE] at h8 ⊢;omega) ?_;intro cur2 h3 h4;have K3:=AS h3;have K4:=AS h4;clear h3 h4)
   go_ret
   exact⟨rfl,FIN.out cur1 cur2 K1.out (by rw[H1.out];exact K2.out) K3.out (by simpa [letE] using K4.out)⟩
theorem delI_any {g cap i:Nat} {xs:List Int} {w:Go.World} (hO:OwnE intE (.slice (some ⟨g,0,none⟩) xs.length cap) xs w) (hi:i < xs.length) :
  Calls Tryz.prog 178 #[.slice (some ⟨g,0,none⟩) xs.length cap,.int .i64 i,.int .i64 ((i:Int)+1)] w fun e w'=>e=.returned (.slice (some ⟨g,0,none⟩) (xs.length - 1) cap)/\OwnE intE (.slice (some ⟨g,0,none⟩) (xs.length - 1) cap) (xs.eraseIdx i) w'/\Keeps [g] w w':=by
 obtain⟨cur,hg,hnc,hcs,htk,hcm⟩:∃ cur:Array Value,w.heap[g]?=some (.cells cur intE.T (0,0))/\xs.length≤cap/\cur.size=cap * intE.k/\cur.toList.take (xs.length * intE.k)=flat intE xs/\cap≤9223372036854775807:=by
  rcases hO.cases with ⟨h,_⟩ | ⟨g',cap',cur,h,hg,hnc,hm,hcs,htk⟩
  ·simp at h
  ·simp at h
   obtain⟨rfl,rfl⟩:=h
   exact⟨cur,hg,hnc,hcs,htk,hm⟩
 have hrow:RowE intE w (some ⟨g,0,none⟩) xs:=by
  obtain⟨A,c,h,hr,_⟩:=OwnE.row hO
  simp at h
  rw[<- h.1] at hr
  exact hr
 have hlast:xs.length - (i+1)=(xs.drop (i+1)).length:=by simp
 have hi1:i+(xs.drop (i+1)).length=xs.length - 1:=by simp;omega
 have FIN:=AS (show ∀ cur1 cur2:Array Value,cur1.size=cap * intE.k->cur1.toList.take ((i+(xs.drop (i+1)).length) * intE.k)=cur.toList.take (i * intE.k) ++ flat intE (xs.drop (i+1))->cur2.size=cur1.size->cur2.toList.take ((xs.length - 1) * intE.k)=cur1.toList.take ((xs.length - 1) * intE.k) ->
   OwnE intE (.slice (some ⟨g,0,none⟩) (xs.length - 1) cap) (xs.eraseIdx i) ((w.drew.setRow g cur1).setRow g cur2)/\Keeps [g] w ((w.drew.setRow g cur1).setRow g cur2) from by
  intro cur1 cur2 h1 h2 h3 h4
  have hgd:w.drew.heap[g]?=some (.cells cur intE.T (0,0)):=hg
  have el:(xs.eraseIdx i).length=xs.length - 1:=by rw[List.length_eraseIdx_of_lt hi]
  refine⟨?_,⟨rfl,rfl,rfl,by simp,fun k hk hne=>?_⟩⟩
  ·have:=OwnE.mk (E:=intE) (xs:=xs.eraseIdx i) (W:=(w.drew.setRow g cur1).setRow g cur2) (g:=g) (cap:=cap) (cur:=cur2) (setRow_heap _ g cur1 cur2 intE.T (0,0) (setRow_heap _ g cur cur1 intE.T (0,0) hgd)) (by rw[el];omega) hcm (by omega) (by rw[el,h4,<- hi1,h2,List.eraseIdx_eq_take_drop_succ,flat_append,<- flat_take intE xs i (by omega),<- htk,List.take_take,Nat.min_eq_left (Nat.mul_le_mul_right _ (by omega))])
   rw[el] at this
   exact this
  ·have hk:k≠g:=fun e=>hne (by simp[e])
   exact(setRow_other _ g k _ hk).trans (setRow_other _ g k _ hk))
 have FIN0:=AS (show cap=i+1->∀ cur2:Array Value,cur2.size=cur.size->cur2.toList.take (i * intE.k)=cur.toList.take (i * intE.k) ->
   OwnE intE (.slice (some ⟨g,0,none⟩) i (i+1)) (xs.eraseIdx i) (w.drew.setRow g cur2)/\Keeps [g] w (w.drew.setRow g cur2) from by
  intro hc cur2 h3 h4
  have hx:xs.length=i+1:=by omega
  have:=FIN.out cur cur2 hcs (by rw[List.drop_eq_nil_of_le (by omega)];simp[flat]) h3 (by rw[hx];exact h4)
  rw[setRow_self w.drew g cur intE.T (0,0) hg,hx,hc] at this
  exact this)
 have G:=AS hg
 have R:=AS hrow
 have HL:=AS hlast
 have H1:=AS hi1
 clear hlast hi1
 have hcs':=AS hcs
 clear hO hrow hg htk hcs
 by_cases hc:cap=i+1
 ·have hx1:xs.length=i+1:=by omega
  have q1:(i:Int)≤(i:Int)+1:=by omega
  have q2:(0:Int)≤(i:Int):=by omega
  have q3:(i:Int)≤(cap:Int):=by omega
  have q4:(i:Int)+1≤(xs.length:Int):=by omega
  have q5:(0:Int)≤(i:Int)+1:=by omega
  have q6:(i:Int)+1≤(cap:Int):=by omega
  go_enter Tryz.func178,Tryz.ntmps178
  go_wp2_with fail
  go_region_law (fail)
  all_goals
   go_wp2_with (refine list_clearE (E:=intE) rfl _ rfl rfl (by omega) (by exact G.out) (by have h8:=hcs'.out;rw[h8,hc];show _+intE.k≤_ * intE.k;simp[intE];try omega) ?_;intro cur2 h3 h4;have K3:=AS h3;have K4:=AS h4;clear h3 h4)
   go_ret
   exact⟨by rw[hx1,hc];rfl,by have:=FIN0.out hc cur2 K3.out (by simpa [intE] using K4.out);rw[hx1,hc];exact this.1,(FIN0.out hc cur2 K3.out (by simpa [intE] using K4.out)).2⟩
 ·have hc2:i+1 < cap:=by omega
  have hno:Aside0 (∀ j u,(flat intE (xs.drop (i+1)))[j]?=some u->w.drew.cell? ((⟨g,(i+1) * intE.k,none⟩:Addr).add j)=some u):=⟨by
   intro j u hu
   have hj:=(List.getElem?_eq_some_iff.1 hu).1
   rw[<- flat_drop intE xs (i+1) (by omega),List.getElem?_drop] at hu
   have:=RowE.news R.out _ u hu
   rw[Addr.add_lit] at this ⊢
   simpa [Nat.add_assoc] using this⟩
  have q1:(i:Int)≤(i:Int)+1:=by omega
  have q2:(0:Int)≤(i:Int):=by omega
  have q3:(i:Int)≤(cap:Int):=by omega
  have q4:(i:Int)+1≤(xs.length:Int):=by omega
  have q5:(0:Int)≤(i:Int)+1:=by omega
  have q6:(i:Int)+1≤(cap:Int):=by omega
  go_enter Tryz.func178,Tryz.ntmps178
  go_wp2_with fail
  go_region_law (refine step_delE (E:=intE) rfl _ _ rfl rfl rfl (by have h9:=HL.out;omega) (by simpa [intE] using hno.out) (by exact G.out) (by have h9:=H1.out;omega) hcs'.out ?_;rw[H1.out];intro cur1 h1 h2;have K1:=AS h1;have K2:=AS h2;clear h1 h2)
  all_goals
   go_wp2_with (refine list_clearE (E:=intE) rfl _ rfl rfl (by omega) (setRow_heap _ g cur cur1 intE.T (0,0) (by exact G.out)) (by have h8:=K1.out;simp only[intE] at h8 ⊢;omega) ?_;intro cur2 h3 h4;have K3:=AS h3;have K4:=AS h4;clear h3 h4)
   go_ret
   exact⟨rfl,FIN.out cur1 cur2 K1.out (by rw[H1.out];exact K2.out) K3.out (by simpa [intE] using K4.out)⟩
end Go.Proofs.YtiebppkhaiofeaaGreat.K
namespace Go.Proofs.YtiebppkhaiofeaaGreat.K
open Go.RowKit Go.Proofs.YtiebppkhaiofeaaGreatW.PrintWords Go.Proofs.YtiebppkhaiofeaaGreat.S
attribute [local go_sem] nil39 World.cell?_alloc_some
theorem bdN (w:Go.World) (n:Nat):Below w.heap.size w (w.drewN n):=⟨rfl,rfl,rfl,Nat.le_refl _,fun _ _=>rfl⟩
theorem NetAt.keep {rm:Int} {xs:List Let} {b:Nat} {F F' G:Set_} {w w':Go.World} (h:NetAt rm xs b F w) (hk:KS G w w') (hs:∀ x,x < w.heap.size->F x->F' x/\¬ G x):NetAt rm xs b F' w':=by
 obtain⟨v,h1,h2,h3,h4,h5,h6⟩:=h
 exact⟨v,hk.at_ h1 (hs b (blk_lt h1) h4).2,h2.ks hk (fun x hx=>(hs x (h2.lt x hx) (h5 x hx)).2),h3,(hs b (blk_lt h1) h4).1,fun x hx=>(hs x (h2.lt x hx) (h5 x hx)).1,h6⟩
theorem NetAt.lt {rm:Int} {xs:List Let} {b:Nat} {F:Set_} {w:Go.World} (h:NetAt rm xs b F w):b < w.heap.size:=by obtain⟨v,h1,_⟩:=h;exact blk_lt h1
theorem NetAt.mem {rm:Int} {xs:List Let} {b:Nat} {F:Set_} {w:Go.World} (h:NetAt rm xs b F w):F b:=by obtain⟨v,h1,h2,h3,h4,_⟩:=h;exact h4
def NetP (v:Value) (rm:Int) (xs:List Let) (b:Nat) (F:Set_) (w:Go.World) (e:Ending) (w':Go.World):Prop:=e=.returned v/\NetAt rm xs b (gr F w) w'/\KS F w w'
def roomOf (r:Int):Int:=min (max r 0) 65536
theorem roomOf_ok (r:Int):0≤roomOf r/\roomOf r≤65536:=by unfold roomOf;omega
theorem netNew_at {r n:Int} {w:Go.World} (h:n=roomOf r):NetAt (roomOf r) [] w.heap.size (nw w) (w.alloc (.cells #[.int .i64 n,.slice none 0 0] 118)):=by
 subst h
 have hr:=roomOf_ok r
 exact⟨_,blk_new w _,OwnE.nil _,by simp[foot_nil],Nat.le_refl _,by simp[foot_nil],hr.1,hr.2,by simpa using hr.1⟩
theorem netNew_any (r:Int) (w:Go.World):Calls Tryz.prog 22 #[.int .i64 r] w fun e w'=>e=.returned (.pointer (some ⟨w.heap.size,0,none⟩))/\NetAt (roomOf r) [] w.heap.size (nw w) w'/\Below w.heap.size w w':=by
 go_enter Tryz.func22,Tryz.ntmps22
 go_wp2
 all_goals
  go_ret
  exact⟨rfl,netNew_at (by unfold roomOf;omega),below_alloc (Below.refl _ _) _⟩
theorem netList_any {rm:Int} {xs:List Let} {b:Nat} {F:Set_} {w:Go.World} (hN:NetAt rm xs b F w):Calls Tryz.prog 37 #[.pointer (some ⟨b,0,none⟩)] w (NewRow letE xs w):=by
 obtain⟨v,hB,hO,hv,hb,hf,h1,h2,h3⟩:=hN
 obtain⟨A,c,rfl,hr,hc,hm,hn⟩:=hO.row
 have c1:=cw hB 1 (v:=.slice A xs.length c)
 have R:=AS hr
 have HC:=AS (cloneL_any (c:=c) hr hn (show _ * 80≤_ by omega))
 clear hr hO hB hf hv hn
 go_enter Tryz.func37,Tryz.ntmps37
 go_wp2_with fail
 refine HC.out.mono ?_
 rintro e w1 ⟨u,rfl,ho,hb1,hb2⟩
 go_wp2
 go_ret
 exact⟨u,rfl,ho,hb1,hb2⟩
theorem netIs_any (b:Nat) (rm:Int) (A:Option Addr) (n c:Nat) (at_:Int) (w:Go.World) (hB:w.heap[b]?=some (.cells #[.int .i64 rm,.slice A n c] 118 (0,0))) :
  Calls Tryz.prog 61 #[.pointer (some ⟨b,0,none⟩),.int .i64 at_] w (RQ (.bool (decide (0≤at_/\at_ < n))) w):=by
 have c1:=cw hB 1 (v:=.slice A n c)
 clear hB
 by_cases h0:0≤at_
 ·by_cases h1:at_ < n
  all_goals
   go_enter Tryz.func61,Tryz.ntmps61
   go_wp2
   go_ret
   exact RQ.of (by simp[h0,h1])
 ·go_enter Tryz.func61,Tryz.ntmps61
  go_wp2
  go_ret
  exact RQ.of (by simp[h0];omega)
theorem netStored {rm:Int} {xs':List Let} {v v1:Value} {b:Nat} {F:Set_} {w w1:Go.World} (hB:w1.heap[b]?=some (.cells #[.int .i64 rm,v] 118 (0,0))) (hO:OwnE letE v1 xs' w1) (hk:KS F w w1) (hF:F b) (F':Set_) (hb:F' b) (hf:∀ x∈foot v1,F' x) (hv:b∉foot v1) (h0:0≤rm/\rm≤65536) (hl:(xs'.length:Int)≤rm) :
  NetAt rm xs' b F' (w1.setCell ⟨b,1,none⟩ v1)/\KS F w (w1.setCell ⟨b,1,none⟩ v1):=by
 refine⟨⟨v1,by simpa using blk_set hB 1 v1,?_,hv,hb,hf,h0.1,h0.2,hl⟩,hk.set (.inl hF) 1 v1⟩
 exact hO.at_ fun x hx=>Below.heap_setCell w1 ⟨b,1,none⟩ v1 x (fun e=>by have e':x=b:=e;subst e';exact hv hx)
theorem netSend_no {rm:Int} {xs ys:List Let} {b c2:Nat} {F:Set_} {A2:Option Addr} {w:Go.World} (hN:NetAt rm xs b F w) (hl:ys.length≤9223372036854775807) (hgo:¬ ((ys.length:Int)≤rm - xs.length)) :
  Calls Tryz.prog 35 #[.pointer (some ⟨b,0,none⟩),.slice A2 ys.length c2] w (NetP (.bool false) rm xs b F w):=by
 have N:=AS hN
 obtain⟨v,hB,hO,hv,hb,hf,h1,h2,h3⟩:=hN
 obtain⟨A,c,rfl,hr,hc,hm,hn⟩:=hO.row
 have c0:=cw hB 0 (v:=.int .i64 rm)
 have c1:=cw hB 1 (v:=.slice A xs.length c)
 have hw:wrap64 (rm - (xs.length:Int))=rm - (xs.length:Int):=by unfold wrap64;omega
 have hgt:rm - (xs.length:Int) < (ys.length:Int):=by omega
 clear hr hO hB hf hv hn hgo
 go_enter Tryz.func35,Tryz.ntmps35
 go_wp2_with fail
 go_quiet (fail)
 go_wp2
 go_ret
 exact⟨rfl,N.out.keep (KS.below (fun _=>False) (bdN _ _)) (fun x _ h=>⟨.inl h,id⟩),KS.below _ (bdN _ _)⟩
theorem netSend_yes {rm:Int} {xs ys:List Let} {b c2:Nat} {F:Set_} {A2:Option Addr} {w:Go.World} (hN:NetAt rm xs b F w) (hR:RowE letE w A2 ys) (hgo:(ys.length:Int)≤rm - xs.length) :
  Calls Tryz.prog 35 #[.pointer (some ⟨b,0,none⟩),.slice A2 ys.length c2] w (NetP (.bool true) rm (xs ++ ys) b F w):=by
 have hbl:=hN.lt
 obtain⟨v,hB,hO,hv,hb,hf,h1,h2,h3⟩:=hN
 obtain⟨A,c,rfl,hr,hc,hm,hn⟩:=hO.row
 have c0:=cw hB 0 (v:=.int .i64 rm)
 have c1:=cw hB 1 (v:=.slice A xs.length c)
 have hw:wrap64 (rm - (xs.length:Int))=rm - (xs.length:Int):=by unfold wrap64;omega
 have hgt:(ys.length:Int)≤rm - (xs.length:Int):=by omega
 have hgt2:¬ (rm - (xs.length:Int) < (ys.length:Int)):=by omega
 have HO:=AS hO
 have HB:=AS hB
 have HR:=AS hR
 have HF:=AS (And.intro hb (And.intro hf hv))
 clear hr hO hB hf hv hn hgo hR hb
 go_enter Tryz.func35,Tryz.ntmps35
 go_wp2_with fail
 go_quiet (fail)
 have O2:=AS (HO.out.ks (KS.below (fun _=>False) (bdN w nq)) (fun _ _=>id))
 have R2:=AS (RowE.below HR.out (bdN w nq))
 go_wp2_with (at_builtin;refine list_appE (E:=letE) (by kernel_rfl) _ _ rfl rfl rfl rfl (by exact O2.out) (by exact R2.out) (by show _ * 80≤_;omega) ?_;intro v1 w1 hO1 hK hf1;obtain⟨A1,n1,k1,rfl⟩:∃ A n c,v1=.slice A n c:=(by obtain⟨A,c,h,_⟩:=OwnE.row hO1;exact⟨_,_,_,h⟩);have O1:=AS hO1;have K1:Aside0 (Keeps (foot (.slice A xs.length c)) (w.drewN nq) w1):=⟨hK⟩;have F1:Aside0 (foot (.slice A1 n1 k1)=foot (.slice A xs.length c)∨foot (.slice A1 n1 k1)=[w.heap.size]):=⟨hf1⟩;have B1:=AS (K1.out.at_ (blk_below HB.out (bdN w nq)) HF.out.2.2);clear hO1 hK hf1;have y1:w1.cell? ⟨b,1,none⟩=some (.slice A xs.length c):=cw B1.out 1;have z1:=blk_frozen B1.out 1)
 go_ret
 refine⟨rfl,netStored B1.out O1.out ((KS.below F (bdN w nq)).trans (KS.ofKeeps K1.out HF.out.2.1) (fun _ _ h=>h)) HF.out.1 (gr F w) (.inl HF.out.1) ?_ ?_ ⟨h1,h2⟩ (by simp;omega)⟩
 ·intro x hx
  rcases F1.out with e | e
  ·rw[e] at hx;exact .inl (HF.out.2.1 x hx)
  ·rw[e] at hx;simp at hx;exact .inr (by omega)
 ·intro hx
  rcases F1.out with e | e
  ·rw[e] at hx;exact HF.out.2.2 hx
  ·rw[e] at hx;simp at hx;omega
def netHas (xs:List Let) (i:Int):Bool:=decide (0≤i/\i < xs.length)
theorem netTake_no {rm:Int} {xs:List Let} {b:Nat} {F:Set_} {i:Int} {w:Go.World} (hN:NetAt rm xs b F w) (hi:netHas xs i=false) :
  Calls Tryz.prog 57 #[.pointer (some ⟨b,0,none⟩),.int .i64 i] w (NetP (.tuple #[letV let0,.bool false]) rm xs b F w):=by
 have N:=AS hN
 have hbl:=hN.lt
 obtain⟨v,hB,hO,hv,hb,hf,h1,h2,h3⟩:=hN
 obtain⟨A,c,rfl,hr,hc,hm,hn⟩:=hO.row
 have hz:w.heap.size≠b:=by omega
 have HB:=AS (blk_below hB (below_alloc (Below.refl _ _) (.cells #[.int .i64 0,.int .i64 0,.int .i64 0,.int .i64 0,.int .i64 0,.int .i64 0,.bool false,.int .i64 0,.bool false,.bool false,.int .i64 0] 47)))
 have hi':decide (0≤i/\i < (xs.length:Int))=false:=hi
 clear hr hO hB hf hv hn hi
 go_enter Tryz.func57,Tryz.ntmps57
 go_wp2_with fail
 refine(netIs_any b rm A xs.length c i _ HB.out).mono ?_
 rintro e w1 ⟨rfl,rfl⟩
 rw[hi']
 go_wp2
 refine bodyPost_ret (v:=.tuple #[letV let0,.bool false]) (by simp[results,Tryz.results57,go_sem];rfl) rfl ?_
 exact⟨rfl,N.out.keep (KS.below (fun _=>False) (below_alloc (Below.refl _ _) _)) (fun x _ h=>⟨.inl h,id⟩),KS.below _ (below_alloc (Below.refl _ _) _)⟩
theorem own_some {α:Type} {E:El α} {v:Value} {xs:List α} {W:Go.World} {i:Nat} (h:OwnE E v xs W) (hi:i < xs.length):∃ g' cap,v=.slice (some ⟨g',0,none⟩) xs.length cap/\cap≤9223372036854775807/\xs.length≤cap/\g' < W.heap.size/\∀ j,j < E.k->W.cell? ⟨g',i * E.k+j,none⟩=(E.f (xs.getD i E.d))[j]?:=by
 rcases h.cases with ⟨_,hn⟩ | ⟨g',cap,cur,rfl,hg,hnc,hm,_⟩
 ·subst hn;simp at hi
 ·obtain⟨A,c,e,hr,_⟩:=h.row
  simp at e
  obtain⟨rfl,rfl⟩:=e
  obtain⟨ad,e,hc⟩:=hr i hi
  simp at e
  subst e
  refine⟨g',cap,rfl,hm,hnc,blk_lt hg,fun j hj=>?_⟩
  have h0:=hc j hj
  rw[Addr.add_lit,Nat.zero_add] at h0
  exact h0
end Go.Proofs.YtiebppkhaiofeaaGreat.K
