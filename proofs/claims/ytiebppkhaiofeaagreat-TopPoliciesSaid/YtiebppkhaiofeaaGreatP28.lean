/- Part of the proof of TopPolicies: what functions of the program do. -/
import Derived.Test.YtiebppkhaiofeaaGreatP27
import Derived.Test.YtiebppkhaiofeaaGreatP00
set_option maxHeartbeats 4000000
set_option maxRecDepth 100000
set_option linter.unusedVariables false
set_option linter.unusedSimpArgs false
open Go.IntKind renaming i64→I
open Go.Value renaming slice→J, int→V, bool→aA, pointer→bA
open Option renaming some→M, none→U
open Go.Obj renaming cells→O
open Go renaming Calls→bB, World→cA, bodyPost_ret→yA
open List renaming getD_eq_getElem?_getD→cB, getElem?_eq_getElem→dB, replicate→uA
open Go.Proofs.Tryz renaming prog→dA
open Go.Proofs.YtiebppkhaiofeaaGreatW.PrintWords renaming below_alloc→eA, blk_lt→eB, blk_frozen→jA, blk_below→kA, blk_alloc→lA, blk_set→mA, blk_new→nA, blk_cell→oB
open Go.RowKit.Below renaming refl→fA, drew→iA
open Nat renaming le_trans→lB, le_refl→pA
open Go.Proofs.YtiebppkhaiofeaaGreat.K.KS renaming below→pB, refl→qB, drew→sB
open And renaming intro→qA
open Go.World renaming size_alloc→rA
open Bool renaming false_eq_true→vA
namespace Go.Proofs.YtiebppkhaiofeaaGreat.K
open Go.RowKit Go.Proofs.YtiebppkhaiofeaaGreatW.PrintWords Go.Proofs.YtiebppkhaiofeaaGreat.S
attribute [local go_sem] World.cell?_alloc_some
open Go.ChangeMaps Go.MapKept
def checkN:List S.Done->Regs->Nat->Int×Bool
 | [],_,_=>(0,true)
 | d :: ds,r,i=>if (r.doIt d).2 then checkN ds (r.doIt d).1 (i+1) else (i,false)
theorem check_any (ds:List S.Done) (hl:ds.length≤1000000000) {A:Option Addr} {lc:Nat} {w:cA} (hR:OwnE doneE (J A ds.length lc) ds w):bB dA 16 #[J A ds.length lc] w fun e w'=>e=.returned (.tuple #[V I (checkN ds Regs.new 0).1,aA (checkN ds Regs.new 0).2])/\Below w.heap.size w w':=by
 have RR:=AS hR
 clear hR
 obtain⟨R,hRe⟩:∃ R,R=checkN ds Regs.new 0:=⟨_,rfl⟩
 rw[<- hRe]
 have HRE:=AS hRe
 clear hRe
 go_enter Tryz.func16,Tryz.ntmps16
 go_wp2_with fail
 refine(regNew_any _).mono ?_
 rintro e w1 ⟨b,rfl,hG,hb⟩
 have R0:=AS (show(∃ (r:Regs) (F:Set_),RegAt r b F w1/\(∀ x,F x->w.heap.size≤x)/\Below w.heap.size w w1/\checkN (ds.drop 0) r 0=R) from⟨Regs.new,_,hG,fun x h=>h,hb,HRE.out.symm⟩)
 clear hG hb HRE
 go_wp2_with fail
 go_loopw [5,6,10] (fun v5 v6 v10 wr=>∃ i:Nat,v10=V I i/\i≤ds.length/\Aside0 (∃ (r:Regs) (F:Set_),RegAt r b F wr/\(∀ x,F x->w.heap.size≤x)/\Below w.heap.size w wr/\checkN (ds.drop i) r i=R)) (fun _ _ v10 _=>ds.length+1 - (intOf v10).toNat)
 case atStart=>exact⟨0,rfl,vB,R0⟩
 case round =>
  obtain⟨i,rfl,hi,RL⟩:=hrel
  obtain⟨r,F,r1,r2,r3,r4⟩:=RL.out
  by_cases hcc:i < ds.length
  ·have q0:(0:Int)≤(i:Int):=vB
   have q1:(i:Int) < (ds.length:Int):=vB
   obtain⟨gl,cl,e,-,-,hgl,hcell⟩:=own_some RR.out hcc
   injection e with e1 e2 e3
   subst e1 e3
   have m0:wr.cell? ⟨gl,i * 7+0,U⟩=M (V I (ds.getD i done0).node):=((bcell r3).1 gl _ hgl).trans ((hcell 0 yB).trans rfl)
   have m1:wr.cell? ⟨gl,i * 7+1,U⟩=M (V I (ds.getD i done0).number):=((bcell r3).1 gl _ hgl).trans ((hcell 1 yB).trans rfl)
   have m2:wr.cell? ⟨gl,i * 7+2,U⟩=M (V I (ds.getD i done0).op.block):=((bcell r3).1 gl _ hgl).trans ((hcell 2 yB).trans rfl)
   have m3:wr.cell? ⟨gl,i * 7+3,U⟩=M (aA (ds.getD i done0).op.write):=((bcell r3).1 gl _ hgl).trans ((hcell 3 yB).trans rfl)
   have m4:wr.cell? ⟨gl,i * 7+4,U⟩=M (V I (ds.getD i done0).op.value):=((bcell r3).1 gl _ hgl).trans ((hcell 4 yB).trans rfl)
   have m5:wr.cell? ⟨gl,i * 7+5,U⟩=M (V I (ds.getD i done0).value):=((bcell r3).1 gl _ hgl).trans ((hcell 5 yB).trans rfl)
   have m6:wr.cell? ⟨gl,i * 7+6,U⟩=M (V I (ds.getD i done0).step):=((bcell r3).1 gl _ hgl).trans ((hcell 6 yB).trans rfl)
   have m0':wr.cell? ⟨gl,i * 7,U⟩=M (V I (ds.getD i done0).node):=m0
   have hdr:ds.drop i=ds.getD i done0 :: ds.drop (i+1):=by rw[List.drop_eq_getElem_cons hcc,cB,dB hcc,Option.getD_some]
   rw[hdr] at r4
   have ENX:=AS (show ∃ en,ds.getD i done0=en from⟨_,rfl⟩)
   obtain⟨en,hen⟩:=ENX.out
   rw[hen] at m0 m0' m1 m2 m3 m4 m5 m6 r4
   clear hen hdr ENX hcell hgl m0
   obtain⟨nd,nu,⟨bl,wt,ov⟩,va,st⟩:=en
   have RB:=AS (r1.keep (F':=F) (pB (fun _=>False) (eA (fA wr.heap.size wr) (O #[V I nd,V I nu,V I bl,aA wt,V I ov,V I va,V I st] 59))) (fun x _ h=>⟨h,id⟩))
   have ST:=AS (regDo_any RB.out nd nu bl wt ov va st)
   unfold checkN at r4
   generalize r.doIt (⟨nd,nu,⟨bl,wt,ov⟩,va,st⟩:S.Done)=D at ST r4
   obtain⟨r',ok⟩:=D
   have H4:=AS r4
   have H2:=AS r2
   have H3:=AS (eA r3 (O #[V I nd,V I nu,V I bl,aA wt,V I ov,V I va,V I st] 59))
   clear r1 r2 r3 r4
   simp only at m0' m1 m2 m3 m4 m5 m6
   go_wp2_with fail
   refine ST.out.mono ?_
   rintro e w5 ⟨rfl,hr5,hk5⟩
   have R5:=AS hr5
   have B5:=AS (H3.out.trans (hk5.toBelow (B:=w.heap.size) H2.out H3.out.size))
   clear hr5 hk5 ST m0' m1 m2 m3 m4 m5 m6
   cases ok with
   | false =>
    have h4:=H4.out
    simp only[vA,if_false] at h4
    subst h4
    go_wp2
    go_ret2
    exact⟨rfl,B5.out⟩
   | true =>
    have h4:=H4.out
    simp only[if_true] at h4
    have H5:=AS h4
    clear h4 H4
    go_wp2
    go_roundw
    case rel =>
     refine⟨i+1,by go_num,vB,⟨⟨r',_,R5.out,fun x h=>?_,B5.out,H5.out⟩⟩⟩
     rcases h with h | h
     ·exact H2.out x h
     ·exact lB H3.out.size h
    case measure=>simp[intOf];omega
  ·have hin:i=ds.length:=vB
   subst hin
   rw[List.drop_length] at r4
   have h4:(0,true)=R:=r4
   subst h4
   have B5:=AS r3
   clear r1 r2 r3 r4
   go_wp2
   go_ret2
   exact⟨rfl,B5.out⟩
def CntAt (cs:List Int) (g:Nat) (w:cA):Prop:=w.heap[g]?=M (O (cs.map fun v=>Value.int .i64 v).toArray 79 (0,0))/\cs.length=23
def bump (cs:List Int) (j:Nat):List Int:=cs.set j (wrap64 (cs.getD j 0+1))
def cnt0:List Int:=uA 23 0
section
variable {cs:List Int} {g j:Nat} {w w':cA} {G:Set_}
theorem CntAt.lt (h:CntAt cs g w):g < w.heap.size:=eB h.1
theorem CntAt.cell (h:CntAt cs g w) (hj:j < 23):w.cell? ⟨g,j,U⟩=M (V I (cs.getD j 0)):=by
 refine(oB h.1 j).trans ?_
 have h2:j < cs.length:=by rw[h.2];exact hj
 simp[List.getElem?_toArray,cB,dB h2]
theorem CntAt.frozen (h:CntAt cs g w):w.frozen? ⟨g,j,U⟩=false:=jA h.1 j
theorem CntAt.set (h:CntAt cs g w) (v:Int):CntAt (cs.set j v) g (w.setCell ⟨g,j,U⟩ (V I v)):=by
 refine⟨(mA h.1 j (V I v)).trans ?_,by simp[h.2]⟩
 congr 2
 apply Array.ext'
 simp[List.map_set]
theorem CntAt.bump (h:CntAt cs g w):CntAt (K.bump cs j) g (w.setCell ⟨g,j,U⟩ (V I (wrap64 (cs.getD j 0+1)))):=h.set _
theorem CntAt.keep (h:CntAt cs g w) (hk:KS G w w') (hG:¬ G g):CntAt cs g w':=⟨hk.at_ h.1 hG,h.2⟩
theorem CntAt.below (h:CntAt cs g w) (hb:Below w.heap.size w w'):CntAt cs g w':=⟨kA h.1 hb,h.2⟩
theorem CntAt.new (w:cA):CntAt cnt0 w.heap.size (w.alloc (O (cnt0.map fun v=>Value.int .i64 v).toArray 79)):=⟨nA w _,rfl⟩
end
def sentN (cs:List Int):List Let->List Int
 | []=>cs
 | x :: xs=>sentN (bump cs (7+(kindN x.kind).toNat)) xs
def kindsN (cs:List Int) (e:Ent) (was:List Let):List Int×Nat :=
 if e.kind=4 then (bump cs 3,0) else if e.kind=3 then (bump cs 4,1) else if e.kind=2 then (bump cs (15+(kindN (was.getD e.a.toNat letE.d).kind).toNat),1) else (cs,0)
def entryN (cs:List Int) (e:Ent) (was now:List Let):List Int:=sentN (kindsN cs e was).1 (now.drop (was.length - (kindsN cs e was).2))
theorem kindN_lt (k:Int):0≤kindN k/\kindN k < 8:=by unfold kindN;split <;> omega
theorem CntAt.bump2 {cs:List Int} {g j:Nat} {w:cA} {v:Int} (h:CntAt cs g w) (hv:v=wrap64 (cs.getD j 0+1)):CntAt (K.bump cs j) g (w.setCell ⟨g,j,U⟩ (V I v)):=by
 rw[hv];exact h.bump
theorem entry_any {cs:List Int} {g:Nat} {was now:List Let} {A A':Option Addr} {cp cp':Nat} {w:cA} (hC:CntAt cs g w) (hW:OwnE letE (J A was.length cp) was w) (hN:OwnE letE (J A' now.length cp') now w) (hg:g∉foot (J A was.length cp)/\g∉foot (J A' now.length cp')) (k_ a_ b_ c_ d_:Int) (h2:k_=2->0≤a_/\a_ < was.length) (hl:was.length≤1000000/\now.length≤1000000) (hn:was.length - (kindsN cs ⟨k_,a_,b_,c_,d_⟩ was).2≤now.length/\(kindsN cs ⟨k_,a_,b_,c_,d_⟩ was).2≤was.length):bB dA 42 #[bA (M ⟨g,0,U⟩),.agg #[V I k_,V I a_,V I b_,V I c_,V I d_],J A was.length cp,J A' now.length cp'] w fun e w'=>e=.returned (.tuple #[])/\CntAt (entryN cs ⟨k_,a_,b_,c_,d_⟩ was now) g w'/\KS (fun x=>x=g) w w':=by
 obtain⟨A9,c9,e9,-,hcap,hcap2,-⟩:=hN.row
 injection e9 with e1 e2 e3
 subst e1 e3
 have CA:=AS (hC.below (eA (fA w.heap.size w) (O #[V I k_,V I a_,V I b_,V I c_,V I d_] 33)))
 have KA:=AS (pB (fun x=>x=g) (eA (fA w.heap.size w) (O #[V I k_,V I a_,V I b_,V I c_,V I d_] 33)))
 have OW:=AS (hW.ks KA.out (fun x hx e=>hg.1 (e ▸ hx)))
 have ON:=AS hN
 have HG:=AS hg
 have HGL:=AS hC.lt
 have c3_:=CA.out.cell (j:=3) yB
 have c4_:=CA.out.cell (j:=4) yB
 have z3_:=CA.out.frozen (j:=3)
 have z4_:=CA.out.frozen (j:=4)
 obtain⟨R,hR⟩:∃ R,R=entryN cs ⟨k_,a_,b_,c_,d_⟩ was now:=⟨_,rfl⟩
 rw[<- hR]
 have HR:=AS hR
 clear hC hW hN hg hR
 go_enter Tryz.func42,Tryz.ntmps42
 go_upto_block 0 with fail
 go_cut [8] (fun v8 wx=>∃ (cs1:List Int) (less:Nat),v8=V I less/\kindsN cs ⟨k_,a_,b_,c_,d_⟩ was=(cs1,less)/\CntAt cs1 g wx/\KS (fun x=>x=g) w wx)
 case rest =>
  obtain⟨cs1,less,rfl,hkk,hC1,hK1⟩:=hcut
  rw[hkk] at hn
  simp only at hn
  have hR:=HR.out
  unfold entryN at hR
  rw[hkk] at hR
  simp only at hR
  have C1:=AS hC1
  have K1:=AS hK1
  obtain⟨D,hD⟩:∃ D,D=was.length - less:=⟨_,rfl⟩
  have hDi:(was.length:Int) - (less:Int)=(D:Int):=vB
  have q1:(D:Int)≤(now.length:Int):=vB
  have q2:(now.length:Int)≤(cp':Int):=vB
  rw[<- hD] at hR
  have HR1:=AS hR
  have HD:=AS hD
  have HKK:=AS hkk
  clear hC1 hK1 hD hkk c3_ c4_ z3_ z4_ h2 hR HR
  have R0:=AS (show ∃ cs2,CntAt cs2 g wc/\KS (fun x=>x=g) w wc/\sentN cs2 (now.drop (D+0))=R from⟨cs1,C1.out,K1.out,HR1.out.symm⟩)
  obtain⟨n,hn2⟩:∃ n,now.length=D+n:=⟨now.length - D,vB⟩
  have hni:((now.length:Int) - (D:Int))=(n:Int):=vB
  by_cases hn0:n=0
  ·go_wp2
   all_goals
    go_loopw [10,55] (fun v10 v55 wr=>∃ i:Nat,v55=V I i/\i≤n/\Aside0 (∃ cs2,CntAt cs2 g wr/\KS (fun x=>x=g) w wr/\sentN cs2 (now.drop (D+i))=R)) (fun _ v55 _=>n+1 - (intOf v55).toNat)
    case atStart=>exact⟨0,rfl,vB,R0⟩
    case round =>
     obtain⟨i,rfl,hi,RL⟩:=hrel
     by_cases hcc:i < n
     ·exact absurd hcc vB
     ·have hin:i=n:=vB
      subst hin
      obtain⟨cs2,r1,r2,r3⟩:=RL.out
      have E1:=AS (qA r1 r2)
      rw[<- hn2,List.drop_length] at r3
      have E2:=AS (show R=cs2 from r3.symm)
      clear r1 r2 r3
      go_wp2
      refine bodyPost_end (v:=.tuple #[]) (by simp[results,Tryz.results42,go_sem]) rfl ?_
      rw[E2.out]
      exact⟨rfl,E1.out⟩
  ·obtain⟨gl,cl,e,-,hcl,-,-⟩:=own_some ON.out (show D < now.length by omega)
   injection e with e1 e2 e3
   subst e1 e3
   have hcl2:cp'≠D:=vB
   have hcl3:¬ ((cp':Int)=(D:Int)):=vB
   have q3:(D:Int) < (cp':Int):=vB
   go_wp2
   go_loopw [10,55] (fun v10 v55 wr=>∃ i:Nat,v55=V I i/\i≤n/\Aside0 (∃ cs2,CntAt cs2 g wr/\KS (fun x=>x=g) w wr/\sentN cs2 (now.drop (D+i))=R)) (fun _ v55 _=>n+1 - (intOf v55).toNat)
   case atStart=>exact⟨0,rfl,vB,R0⟩
   case round =>
    obtain⟨i,rfl,hi,RL⟩:=hrel
    by_cases hcc:i < n
    ·obtain⟨cs2,r1,r2,r3⟩:=RL.out
     have OR:=AS (ON.out.ks r2 (fun x hx e=>HG.out.2 (e ▸ hx)))
     have hin2:D+i < now.length:=vB
     obtain⟨gl2,cl2,e,-,-,hgl,hcell⟩:=own_some OR.out hin2
     injection e with e1 e2 e3
     injection e1 with e1
     injection e1 with e1 _ _
     subst e1
     have hDi:D * 11+i * 11=(D+i) * 11:=vB
     have m0:wr.cell? ⟨gl,D * 11+i * 11,U⟩=M (V I (now.getD (D+i) let0).kind):=by rw[hDi];exact(hcell 0 yB).trans rfl
     have m1:wr.cell? ⟨gl,D * 11+i * 11+1,U⟩=M (V I (now.getD (D+i) let0).src):=by rw[hDi];exact(hcell 1 yB).trans rfl
     have m2:wr.cell? ⟨gl,D * 11+i * 11+2,U⟩=M (V I (now.getD (D+i) let0).dst):=by rw[hDi];exact(hcell 2 yB).trans rfl
     have m3:wr.cell? ⟨gl,D * 11+i * 11+3,U⟩=M (V I (now.getD (D+i) let0).block):=by rw[hDi];exact(hcell 3 yB).trans rfl
     have m4:wr.cell? ⟨gl,D * 11+i * 11+4,U⟩=M (V I (now.getD (D+i) let0).seq):=by rw[hDi];exact(hcell 4 yB).trans rfl
     have m5:wr.cell? ⟨gl,D * 11+i * 11+5,U⟩=M (V I (now.getD (D+i) let0).who):=by rw[hDi];exact(hcell 5 yB).trans rfl
     have m6:wr.cell? ⟨gl,D * 11+i * 11+6,U⟩=M (aA (now.getD (D+i) let0).write):=by rw[hDi];exact(hcell 6 yB).trans rfl
     have m7:wr.cell? ⟨gl,D * 11+i * 11+7,U⟩=M (V I (now.getD (D+i) let0).bun.count):=by rw[hDi];exact(hcell 7 yB).trans rfl
     have m8:wr.cell? ⟨gl,D * 11+i * 11+8,U⟩=M (aA (now.getD (D+i) let0).bun.owner):=by rw[hDi];exact(hcell 8 yB).trans rfl
     have m9:wr.cell? ⟨gl,D * 11+i * 11+9,U⟩=M (aA (now.getD (D+i) let0).bun.has):=by rw[hDi];exact(hcell 9 yB).trans rfl
     have m10:wr.cell? ⟨gl,D * 11+i * 11+10,U⟩=M (V I (now.getD (D+i) let0).bun.data):=by rw[hDi];exact(hcell 10 yB).trans rfl
     have hdr:now.drop (D+i)=now.getD (D+i) let0 :: now.drop (D+(i+1)):=by rw[List.drop_eq_getElem_cons hin2,cB,dB hin2,Option.getD_some];rfl
     rw[hdr] at r3
     obtain⟨x,hx⟩:∃ x,now.getD (D+i) let0=x:=⟨_,rfl⟩
     rw[hx] at r3 m0 m1 m2 m3 m4 m5 m6 m7 m8 m9 m10
     clear hx hcell hdr e2 e3
     obtain⟨k,f,t,b,qq,wh,wr_,⟨c0,oo,hh,dd⟩⟩:=x
     simp only at m0 m1 m2 m3 m4 m5 m6 m7 m8 m9 m10
     have r3:sentN (bump cs2 (7+(kindN k).toNat)) (now.drop (D+(i+1)))=R:=r3
     obtain⟨m,hm⟩:∃ m:Nat,kindN k=m:=⟨(kindN k).toNat,by have:=(kindN_lt k).1;omega⟩
     have hm8:m < 8:=by have:=(kindN_lt k).2;omega
     have qm0:(0:Int)≤(m:Int):=vB
     have qm1:(m:Int) < 8:=vB
     have ST:=AS (fun W'=>kind_any k f t b qq wh wr_ c0 oo hh dd W')
     rw[hm] at ST
     have HM:=AS (show(kindN k).toNat=m by omega)
     clear hm
     rw[HM.out] at r3
     have RR:=AS r3
     have qi0:(0:Int)≤(i:Int):=vB
     have qi1:(i:Int) < (n:Int):=vB
     have XB:=AS (nA wr (O #[V I k,V I f,V I t,V I b,V I qq,V I wh,aA wr_,V I c0,aA oo,aA hh,V I dd] 47))
     have CB:=AS (r1.below (eA (fA wr.heap.size wr) (O #[V I k,V I f,V I t,V I b,V I qq,V I wh,aA wr_,V I c0,aA oo,aA hh,V I dd] 47)))
     have KB:=AS (r2.trans (pB (fun x=>x=g) (eA (fA wr.heap.size wr) (O #[V I k,V I f,V I t,V I b,V I qq,V I wh,aA wr_,V I c0,aA oo,aA hh,V I dd] 47))) (fun x _ h=>h))
     clear r1 r2 r3 hDi
     go_upto_region 14 with fail
     generalize wr.heap.size=bx at *
     generalize wr.alloc (O #[V I k,V I f,V I t,V I b,V I qq,V I wh,aA wr_,V I c0,aA oo,aA hh,V I dd] 47)=W at XB CB KB ⊢
     have hgx:¬ bx=g:=fun e=>by
      have h:=XB.out
      rw[e,CB.out.1] at h
      simp at h
     have KEEP:=AS (show ∀ x,KS (fun y=>y=g) W x->(x.cell? ⟨bx,0,U⟩=M (V I k)/\x.cell? ⟨bx,1,U⟩=M (V I f)/\x.cell? ⟨bx,2,U⟩=M (V I t)/\x.cell? ⟨bx,3,U⟩=M (V I b)/\x.cell? ⟨bx,4,U⟩=M (V I qq)/\x.cell? ⟨bx,5,U⟩=M (V I wh)/\x.cell? ⟨bx,6,U⟩=M (aA wr_)/\x.cell? ⟨bx,7,U⟩=M (V I c0)/\x.cell? ⟨bx,8,U⟩=M (aA oo)/\x.cell? ⟨bx,9,U⟩=M (aA hh)/\x.cell? ⟨bx,10,U⟩=M (V I dd)) from fun x hb=>⟨cw (hb.at_ XB.out hgx) 0,cw (hb.at_ XB.out hgx) 1,cw (hb.at_ XB.out hgx) 2,cw (hb.at_ XB.out hgx) 3,cw (hb.at_ XB.out hgx) 4,cw (hb.at_ XB.out hgx) 5,cw (hb.at_ XB.out hgx) 6,cw (hb.at_ XB.out hgx) 7,cw (hb.at_ XB.out hgx) 8,cw (hb.at_ XB.out hgx) 9,cw (hb.at_ XB.out hgx) 10⟩)
     obtain⟨u0,u1,u2,u3,u4,u5,u6,u7,u8,u9,u10⟩:=KEEP.out W (qB _ _)
     go_region_with ((go_at_call 71;refine(ST.out _).mono ?_;rintro e w3 ⟨rfl,hb3⟩;have B3:=AS (show Below W.heap.size W w3 from(iA (fA _ _)).trans (hb3.mono (pA _)));have z7:w3.frozen? ⟨g,7+m,U⟩=false:=(CB.out.below B3.out).frozen;have c7:w3.cell? ⟨g,7+m,U⟩=M (V I (cs2.getD (7+m) 0)):=(CB.out.below B3.out).cell vB;have K3:=AS (pB (fun y=>y=g) B3.out);clear hb3))
     all_goals
      go_wp2
      go_roundw
      case rel=>exact⟨i+1,by go_num,vB,⟨⟨_,(CB.out.below B3.out).bump,(KB.out.trans (pB (fun x=>x=g) B3.out) (fun x _ h=>h)).set (.inl rfl) _ _,RR.out⟩⟩⟩
      case measure=>simp[intOf];omega
    ·have hin:i=n:=vB
     subst hin
     obtain⟨cs2,r1,r2,r3⟩:=RL.out
     have E1:=AS (qA r1 r2)
     rw[<- hn2,List.drop_length] at r3
     have E2:=AS (show R=cs2 from r3.symm)
     clear r1 r2 r3
     go_wp2
     refine bodyPost_end (v:=.tuple #[]) (by simp[results,Tryz.results42,go_sem]) rfl ?_
     rw[E2.out]
     exact⟨rfl,E1.out⟩
 all_goals
  by_cases k4:k_=4
  ·have d4:(k_ == 4)=true:=by simp[k4]
   have K4:=AS k4
   clear k4
   go_wp2_with fail
   go_meet
   exact⟨bump cs 3,0,rfl,by unfold kindsN;rw[if_pos K4.out],CA.out.bump,KA.out.set (.inl rfl) _ _⟩
  by_cases k3:k_=3
  ·have d4:(k_ == 4)=false:=by simp[k4]
   have d3:(k_ == 3)=true:=by simp[k3]
   have K3:=AS k3
   clear k3
   go_wp2_with fail
   go_meet
   exact⟨bump cs 4,1,rfl,by unfold kindsN;rw[if_neg k4,if_pos K3.out],CA.out.bump,KA.out.set (.inl rfl) _ _⟩
  by_cases k2:k_=2
  ·obtain⟨h20,h21⟩:=h2 k2
   obtain⟨an,han⟩:∃ an:Nat,a_=an:=⟨a_.toNat,vB⟩
   subst han
   have hlt:an < was.length:=vB
   obtain⟨gl,cl,e,-,-,hgl,hcell⟩:=own_some OW.out hlt
   injection e with e1 e2 e3
   subst e1 e3
   have m0:(w.alloc (O #[V I k_,V I an,V I b_,V I c_,V I d_] 33)).cell? ⟨gl,an * 11,U⟩=M (V I (was.getD an let0).kind):=(hcell 0 yB).trans rfl
   have m1:(w.alloc (O #[V I k_,V I an,V I b_,V I c_,V I d_] 33)).cell? ⟨gl,an * 11+1,U⟩=M (V I (was.getD an let0).src):=(hcell 1 yB).trans rfl
   have m2:(w.alloc (O #[V I k_,V I an,V I b_,V I c_,V I d_] 33)).cell? ⟨gl,an * 11+2,U⟩=M (V I (was.getD an let0).dst):=(hcell 2 yB).trans rfl
   have m3:(w.alloc (O #[V I k_,V I an,V I b_,V I c_,V I d_] 33)).cell? ⟨gl,an * 11+3,U⟩=M (V I (was.getD an let0).block):=(hcell 3 yB).trans rfl
   have m4:(w.alloc (O #[V I k_,V I an,V I b_,V I c_,V I d_] 33)).cell? ⟨gl,an * 11+4,U⟩=M (V I (was.getD an let0).seq):=(hcell 4 yB).trans rfl
   have m5:(w.alloc (O #[V I k_,V I an,V I b_,V I c_,V I d_] 33)).cell? ⟨gl,an * 11+5,U⟩=M (V I (was.getD an let0).who):=(hcell 5 yB).trans rfl
   have m6:(w.alloc (O #[V I k_,V I an,V I b_,V I c_,V I d_] 33)).cell? ⟨gl,an * 11+6,U⟩=M (aA (was.getD an let0).write):=(hcell 6 yB).trans rfl
   have m7:(w.alloc (O #[V I k_,V I an,V I b_,V I c_,V I d_] 33)).cell? ⟨gl,an * 11+7,U⟩=M (V I (was.getD an let0).bun.count):=(hcell 7 yB).trans rfl
   have m8:(w.alloc (O #[V I k_,V I an,V I b_,V I c_,V I d_] 33)).cell? ⟨gl,an * 11+8,U⟩=M (aA (was.getD an let0).bun.owner):=(hcell 8 yB).trans rfl
   have m9:(w.alloc (O #[V I k_,V I an,V I b_,V I c_,V I d_] 33)).cell? ⟨gl,an * 11+9,U⟩=M (aA (was.getD an let0).bun.has):=(hcell 9 yB).trans rfl
   have m10:(w.alloc (O #[V I k_,V I an,V I b_,V I c_,V I d_] 33)).cell? ⟨gl,an * 11+10,U⟩=M (V I (was.getD an let0).bun.data):=(hcell 10 yB).trans rfl
   obtain⟨x,hx⟩:∃ x,was.getD an let0=x:=⟨_,rfl⟩
   rw[hx] at m0 m1 m2 m3 m4 m5 m6 m7 m8 m9 m10
   have HX:=AS hx
   clear hx hcell
   obtain⟨k,f,t,b,qq,wh,wr_,⟨c0,oo,hh,dd⟩⟩:=x
   simp only at m0 m1 m2 m3 m4 m5 m6 m7 m8 m9 m10
   obtain⟨m,hm⟩:∃ m:Nat,kindN k=m:=⟨(kindN k).toNat,by have:=(kindN_lt k).1;omega⟩
   have hm8:m < 8:=by have:=(kindN_lt k).2;omega
   have qm0:(0:Int)≤(m:Int):=vB
   have qm1:(m:Int) < 8:=vB
   have ST:=AS (fun W'=>kind_any k f t b qq wh wr_ c0 oo hh dd W')
   rw[hm] at ST
   have HM:=AS (show(kindN k).toNat=m by omega)
   clear hm
   have x1:(w.alloc (O #[V I k_,V I an,V I b_,V I c_,V I d_] 33)).cell? ⟨w.heap.size,1,U⟩=M (V I an):=cw (nA w _) 1
   have d4:(k_ == 4)=false:=by simp[k4]
   have d3:(k_ == 3)=false:=by simp[k3]
   have d2:(k_ == 2)=true:=by simp[k2]
   have K2:=AS k2
   clear k2
   have hsz0:(w.alloc (O #[V I k_,V I an,V I b_,V I c_,V I d_] 33)).heap.size=w.heap.size+1:=by simp
   have qa0:(0:Int)≤(an:Int):=vB
   have qa1:(an:Int) < (was.length:Int):=vB
   go_upto_region 9 with fail
   generalize w.alloc (O #[V I k_,V I an,V I b_,V I c_,V I d_] 33)=W at *
   have hx2:w.heap.size < W.heap.size:=vB
   have hgx:¬ w.heap.size=g:=fun e=>by have:=HGL.out;omega
   have hgg:¬ gl=g:=fun e=>HG.out.1 (by rw[<- e];simp[foot_slice])
   have KEEP:=AS (show ∀ x,KS (fun y=>y=g) W x->(x.cell? ⟨w.heap.size,1,U⟩=M (V I an)/\x.cell? ⟨gl,an * 11,U⟩=M (V I k)/\x.cell? ⟨gl,an * 11+1,U⟩=M (V I f)/\x.cell? ⟨gl,an * 11+2,U⟩=M (V I t)/\x.cell? ⟨gl,an * 11+3,U⟩=M (V I b)/\x.cell? ⟨gl,an * 11+4,U⟩=M (V I qq)/\x.cell? ⟨gl,an * 11+5,U⟩=M (V I wh)/\x.cell? ⟨gl,an * 11+6,U⟩=M (aA wr_)/\x.cell? ⟨gl,an * 11+7,U⟩=M (V I c0)/\x.cell? ⟨gl,an * 11+8,U⟩=M (aA oo)/\x.cell? ⟨gl,an * 11+9,U⟩=M (aA hh)/\x.cell? ⟨gl,an * 11+10,U⟩=M (V I dd)) from fun x hb=>⟨(ks_cell hb hx2 hgx).trans x1,(ks_cell hb hgl hgg).trans m0,(ks_cell hb hgl hgg).trans m1,(ks_cell hb hgl hgg).trans m2,(ks_cell hb hgl hgg).trans m3,(ks_cell hb hgl hgg).trans m4,(ks_cell hb hgl hgg).trans m5,(ks_cell hb hgl hgg).trans m6,(ks_cell hb hgl hgg).trans m7,(ks_cell hb hgl hgg).trans m8,(ks_cell hb hgl hgg).trans m9,(ks_cell hb hgl hgg).trans m10⟩)
   go_region_with ((go_at_call 71;refine(ST.out _).mono ?_;rintro e w3 ⟨rfl,hb3⟩;have B3:=AS (show Below W.heap.size W w3 from(iA (fA _ _)).trans (hb3.mono (pA _)));have z15:w3.frozen? ⟨g,15+m,U⟩=false:=(CA.out.below B3.out).frozen;have c15:w3.cell? ⟨g,15+m,U⟩=M (V I (cs.getD (15+m) 0)):=(CA.out.below B3.out).cell vB;have K3:=AS (pB (fun y=>y=g) B3.out);clear hb3))
   all_goals
    go_wp2_with fail
    go_meet
    exact⟨bump cs (15+m),1,rfl,by unfold kindsN;rw[if_neg k4,if_neg k3,if_pos K2.out];simp only[Int.toNat_natCast];rw[show letE.d=let0 from rfl,HX.out,HM.out],CntAt.bump2 (j:=15+m) (CA.out.below B3.out) (by rw[cB,IntKind.wrap_i64,wrap64]),(KA.out.trans (pB (fun x=>x=g) B3.out) (fun x _ h=>h)).set (.inl rfl) _ _⟩
  have d4:(k_ == 4)=false:=by simp[k4]
  have d3:(k_ == 3)=false:=by simp[k3]
  have d2:(k_ == 2)=false:=by simp[k2]
  go_wp2_with fail
  go_meet
  exact⟨cs,0,rfl,by unfold kindsN;rw[if_neg k4,if_neg k3,if_neg k2],CA.out,KA.out⟩
def doneN (cs:List Int):List S.Done->List Int
 | []=>cs
 | d :: ds=>doneN (bump cs (if d.op.write then 6 else 5)) ds
def cntF (c:Cfg) (a:S.World×List Int) (e:Ent):S.World×List Int :=
 ((a.1.step c e).1,doneN (if (a.1.step c e).2.1=1 then entryN (bump a.2 (a.1.step c e).2.1.toNat) e a.1.way (a.1.step c e).1.way else bump a.2 (a.1.step c e).2.1.toNat) (a.1.step c e).2.2)
def cntL (c:Cfg) (l:List Ent):S.World×List Int:=l.foldl (cntF c) (S.World.new c,cnt0)
def EntOk (c:Cfg) (s:S.World) (e:Ent):Prop:=(0≤(s.step c e).2.1/\(s.step c e).2.1 < 3)/\s.way.length≤1000000/\(s.step c e).1.way.length≤1000000/\((s.step c e).2.1=1->(e.kind=2->0≤e.a/\e.a < s.way.length)/\s.way.length - (kindsN [] e s.way).2≤(s.step c e).1.way.length/\(kindsN [] e s.way).2≤s.way.length)
instance (c:Cfg) (s:S.World) (e:Ent):Decidable (EntOk c s e):=by unfold EntOk;infer_instance
theorem kindsN_snd (cs cs':List Int) (e:Ent) (was:List Let):(kindsN cs e was).2=(kindsN cs' e was).2:=by
 unfold kindsN
 repeat' split
 all_goals rfl
theorem cntL_fst (c:Cfg) (l:List Ent):∀ i,i≤l.length->(cntL c (l.take i)).1=(runL c (l.take i)).1
 | 0,_=>rfl
 | i+1,h=>by
  have ih:=cntL_fst c l i vB
  rw[runL_snoc c l vB]
  unfold cntL
  rw[List.take_add_one,dB (show i < l.length by omega),List.foldl_append,cB,dB (show i < l.length by omega)]
  show(((cntL c (l.take i)).1).step c _).1=_
  rw[ih]
  rfl
theorem cntL_snoc (c:Cfg) (l:List Ent) {i:Nat} (h:i < l.length):cntL c (l.take (i+1))=cntF c (cntL c (l.take i)) (l.getD i ent0):=by
 unfold cntL
 rw[List.take_add_one,dB h,List.foldl_append,cB,dB h]
 rfl
def cntV (cs:List Int):Value:=.agg (cs.map fun v=>Value.int .i64 v).toArray
theorem size79:(Tryz.prog.info? 79).map (·.size)=M 23:=by kernel_rfl
theorem load79 {w:cA} {g:Nat} {cs:List Int} (h:CntAt cs g w):(Instr.loadAt 79 (bA (M ⟨g,0,U⟩))).run dA w=.ok (cntV cs) w :=
 run_loadAt_mid (P:=dA) w g 0 79 (cs.map fun v=>Value.int .i64 v) _ (fun j v hv=>by
  rw[Nat.zero_add,oB h.1 j]
  simpa using hv) Tryz.underlying79 rfl (by rw[List.length_map,h.2];exact size79)
theorem store79 {w:cA} {g:Nat} {cs cs':List Int} (h:CntAt cs g w) (h':cs'.length=23):∃ w',(Instr.storeAt 79 (bA (M ⟨g,0,U⟩)) (cntV cs')).run dA w=.ok () w'/\CntAt cs' g w'/\KS (fun x=>x=g) w w':=by
 have hs:(cs'.map fun v=>Value.int .i64 v).toArray.size=23:=by simp[h']
 have hr:=run_storeAt_mid (P:=dA) w g 0 79 (cs'.map fun v=>Value.int .i64 v).toArray (by
  rw[hs]
  intro j hj
  rw[Nat.zero_add,h.cell hj,h.frozen]
  exact⟨rfl,rfl⟩) (by rw[hs];exact size79) (by simp[Value.oneCell'])
 obtain⟨cur',k1,k2,k3⟩:=setCells_blk (cs'.map fun v=>Value.int .i64 v) 0 _ w h.1 (by simp[h',h.2])
 refine⟨_,hr,⟨k1.trans ?_,h'⟩,KS.setCells (F:=fun x=>x=g) (g:=g) (.inl rfl) _ _ _ (qB _ _)⟩
 congr 2
 apply Array.ext
 ·rw[k2];simp[h',h.2]
 ·intro i h1 h2
  have h3:=k3 i
  have h4:i < 23:=by simpa [h'] using h2
  rw[if_pos (by simp[h'];omega),Array.getElem?_eq_getElem h1] at h3
  simp[h',h4] at h3 ⊢
  exact h3
theorem loadVar79 {w:cA} {g:Nat} {cs:List Int} (h:CntAt cs g w):(loadVar 79 ⟨g,0,U⟩).run dA w=.ok (cntV cs) w :=
 run_loadVar_mid (P:=dA) w g 0 79 (cs.map fun v=>Value.int .i64 v) _ (fun j v hv=>by
  rw[Nat.zero_add,oB h.1 j]
  simpa using hv) Tryz.underlying79 rfl (by rw[List.length_map,h.2];exact size79)
theorem asAddr_ptr (w:cA) (p:Addr):(asAddr (bA (M p))).run dA w=.ok p w:=rfl
theorem res17 {w:cA} {g:Nat} {cs:List Int} (h:CntAt cs g w) (tm:Array Value) (h4:tm.getD 4 undef=bA (M ⟨g,0,U⟩)) (h5:tm.getD 5 undef=V I 0):(results Tryz.f17 tm).run dA w=.ok (.tuple #[cntV cs,V I 0]) w:=by
 simp only[results,Tryz.results17,Array.mapM_eq_mapM_toList,List.mapM_cons,List.mapM_nil,h4,h5,Sem.run_bind,Sem.run_pure,Result.andThen_ok,asAddr_ptr,loadVar79 h,Sem.run_map]
 rfl
section
variable {ops:Array Oper} {rest:List Oper} {op:Oper} {a:Act} {w:cA} {Q:Exit->Act->cA->Prop}
theorem wpList_load79 (hgd:op.guard=U) (x:Operand) (ho:op.op=.load 79 x) (g:Nat) (hx:a.eval x=bA (M ⟨g,0,U⟩)) (cs:List Int) (hC:CntAt cs g w) (h:wpList dA ops Q rest (a.put op.dst (cntV cs)) w):wpList dA ops Q (op :: rest) a w :=
 wpList_plain hgd fun _ hK=>by
  unfold Oper.wp execOp
  simp only[ho,hx,Sem.run_bind,load79 hC,Result.andThen_ok]
  exact hK _ _ h
theorem wpList_store79 (hgd:op.guard=U) (x y:Operand) (ho:op.op=.store 79 x y) (g:Nat) (hx:a.eval x=bA (M ⟨g,0,U⟩)) (cs:List Int) (hy:a.eval y=cntV cs) (w':cA) (hs:(Instr.storeAt 79 (bA (M ⟨g,0,U⟩)) (cntV cs)).run dA w=.ok () w') (h:wpList dA ops Q rest (a.put op.dst undef) w'):wpList dA ops Q (op :: rest) a w :=
 wpList_plain hgd fun _ hK=>by
  unfold Oper.wp execOp
  simp only[ho,hx,hy,Sem.run_bind,hs,Result.andThen_ok]
  exact hK _ _ h
end
theorem field41 (u1 u2 u3 u4 u5:Value) (W:cA):(Instr.field 41 (.agg #[u1,u2,u3,u4,u5]) 4).run dA W=.ok u5 W:=by kernel_rfl
def CntI (c:Cfg) (s:S.World) (cs:List Int) (b g r:Nat) (w0 w:cA):Prop:=∃ F:Set_,WldAt c s b F w/\(∀ x,F x->w0.heap.size≤x/\x < w.heap.size)/\CntAt cs g w/\CntAt cnt0 r w/\¬ F g/\¬ F r/\g≠r/\w0.heap.size≤g/\w0.heap.size≤r/\Below w0.heap.size w0 w
section
variable {c:Cfg} {s s':S.World} {cs cs':List Int} {b g r:Nat} {w0 w w':cA}
theorem CntI.below (h:CntI c s cs b g r w0 w) (hb:Below w.heap.size w w'):CntI c s cs b g r w0 w':=by
 obtain⟨F,h1,h2,h3,h4,h5,h6,h7,h8,h9,h10⟩:=h
 have hs:=hb.size
 exact⟨F,h1.keep (pB (fun _=>False) hb) (fun x _ h=>⟨h,id⟩),fun x h=>⟨(h2 x h).1,by have:=(h2 x h).2;omega⟩,h3.below hb,h4.below hb,h5,h6,h7,h8,h9,h10.trans (hb.mono h10.size)⟩
theorem CntI.turn (h:CntI c s cs b g r w0 w) (hk:KS (fun x=>x=g) w w') (hC:CntAt cs' g w'):CntI c s cs' b g r w0 w':=by
 obtain⟨F,h1,h2,h3,h4,h5,h6,h7,h8,h9,h10⟩:=h
 have hs:=hk.size
 exact⟨F,h1.keep hk (fun x _ h=>⟨h,fun e=>h5 (by have e':x=g:=e;rw[<- e'];exact h)⟩),fun x h=>⟨(h2 x h).1,by have:=(h2 x h).2;omega⟩,hC,h4.keep hk (fun e=>h7 (by have e':r=g:=e;exact e'.symm)),h5,h6,h7,h8,h9,h10.trans (hk.toBelow (fun y hy=>by have hy':y=g:=hy;omega) h10.size)⟩
theorem CntI.step (h:CntI c s cs b g r w0 w) {w2:cA} (hb:Below w.heap.size w w2):∃ F:Set_,WldAt c s b F w2/\(∀ x,F x->x < w.heap.size)/\∀ (s':S.World) (w':cA),WldAt c s' b (gr F w2) w'->KS F w2 w'->CntI c s' cs b g r w0 w':=by
 obtain⟨F,h1,h2,h3,h4,h5,h6,h7,h8,h9,h10⟩:=h
 have hs2:=hb.size
 refine⟨F,h1.keep (pB (fun _=>False) hb) (fun x _ h=>⟨h,id⟩),fun x h=>(h2 x h).2,fun s' w' hW hk=>?_⟩
 have hs:=hk.size
 have hg:=h3.lt
 have hr:=h4.lt
 have hz:=h10.size
 refine⟨fun x=>gr F w2 x/\x < w'.heap.size,hW.keep (qB (fun _=>False) _) (fun x hx h=>⟨⟨h,hx⟩,id⟩),fun x h=>⟨?_,h.2⟩,(h3.below hb).keep hk h5,(h4.below hb).keep hk h6,fun h=>?_,fun h=>?_,h7,h8,h9,(h10.trans (hb.mono hz)).trans (hk.toBelow (fun y hy=>(h2 y hy).1) vB)⟩
 ·rcases h.1 with h' | h'
  ·exact(h2 x h').1
  ·omega
 ·rcases h.1 with h' | h'
  ·exact h5 h'
  ·omega
 ·rcases h.1 with h' | h'
  ·exact h6 h'
  ·omega
theorem CntI.shot (h:CntI c s cs b g r w0 w) (hs:WOk c s) (hc:c.check=0):bB dA 10 #[bA (M ⟨b,0,U⟩)] w fun e w'=>∃ Ap Ah Af np cp nh ch nf cf ps,e=.returned (shotV s Ap Ah Af np cp nh ch nf cf)/\ShotV s Ap Ah Af np cp nh ch nf cf ps w.heap.size w'/\Below w.heap.size w w':=by
 obtain⟨F,h1,-⟩:=h
 exact worldShot_any h1 hs hc
theorem CntI.cnt (h:CntI c s cs b g r w0 w):CntAt cs g w:=by
 obtain⟨F,-,-,h3,-⟩:=h
 exact h3
end
theorem countRun_any (c:Cfg) (hc:c.check=0) (l:List Ent) (hl:l.length≤900000) (hok:∀ i,i < l.length->EntOk c (runL c (l.take i)).1 (l.getD i ent0)) {A:Option Addr} {lc:Nat} {w:cA} (hR:OwnE entE (J A l.length lc) l w):bB dA 17 #[cfgV c,J A l.length lc] w fun e w'=>e=.returned (.tuple #[cntV (cntL c l).2,V I 0])/\Below w.heap.size w w':=by
 have NW:=AS (fun X=>worldNew_any c hc X)
 have OK:=AS (fun i hi=>runL_ok hc l hl i hi)
 have EOK:=AS hok
 have HC:=AS hc
 have RR:=AS hR
 have C1:=AS (show CntAt cnt0 (w.heap.size+1) (((w.alloc (O #[V I c.nodes,V I c.blocks,V I c.tokens,V I c.sets,V I c.ways,V I c.cap,V I c.wait,V I c.tries,V I c.policy] 23)).alloc (O #[V I 0,V I 0,V I 0,V I 0,V I 0,V I 0,V I 0,V I 0,V I 0,V I 0,V I 0,V I 0,V I 0,V I 0,V I 0,V I 0,V I 0,V I 0,V I 0,V I 0,V I 0,V I 0,V I 0] 79)).alloc (O #[V I 0,V I 0,V I 0,V I 0,V I 0,V I 0,V I 0,V I 0,V I 0,V I 0,V I 0,V I 0,V I 0,V I 0,V I 0,V I 0,V I 0,V I 0,V I 0,V I 0,V I 0,V I 0,V I 0] 79)) from by
  have h:=CntAt.new (w.alloc (O #[V I c.nodes,V I c.blocks,V I c.tokens,V I c.sets,V I c.ways,V I c.cap,V I c.wait,V I c.tries,V I c.policy] 23))
  rw[rA] at h
  exact h.below (eA (fA _ _) _))
 have C2:=AS (show CntAt cnt0 (w.heap.size+2) (((w.alloc (O #[V I c.nodes,V I c.blocks,V I c.tokens,V I c.sets,V I c.ways,V I c.cap,V I c.wait,V I c.tries,V I c.policy] 23)).alloc (O #[V I 0,V I 0,V I 0,V I 0,V I 0,V I 0,V I 0,V I 0,V I 0,V I 0,V I 0,V I 0,V I 0,V I 0,V I 0,V I 0,V I 0,V I 0,V I 0,V I 0,V I 0,V I 0,V I 0] 79)).alloc (O #[V I 0,V I 0,V I 0,V I 0,V I 0,V I 0,V I 0,V I 0,V I 0,V I 0,V I 0,V I 0,V I 0,V I 0,V I 0,V I 0,V I 0,V I 0,V I 0,V I 0,V I 0,V I 0,V I 0] 79)) from by
  have h:=CntAt.new ((w.alloc (O #[V I c.nodes,V I c.blocks,V I c.tokens,V I c.sets,V I c.ways,V I c.cap,V I c.wait,V I c.tries,V I c.policy] 23)).alloc (O #[V I 0,V I 0,V I 0,V I 0,V I 0,V I 0,V I 0,V I 0,V I 0,V I 0,V I 0,V I 0,V I 0,V I 0,V I 0,V I 0,V I 0,V I 0,V I 0,V I 0,V I 0,V I 0,V I 0] 79))
  rw[rA,rA] at h
  exact h)
 have BN:=AS (lA (lA (nA w (O #[V I c.nodes,V I c.blocks,V I c.tokens,V I c.sets,V I c.ways,V I c.cap,V I c.wait,V I c.tries,V I c.policy] 23)) (O #[V I 0,V I 0,V I 0,V I 0,V I 0,V I 0,V I 0,V I 0,V I 0,V I 0,V I 0,V I 0,V I 0,V I 0,V I 0,V I 0,V I 0,V I 0,V I 0,V I 0,V I 0,V I 0,V I 0] 79)) (O #[V I 0,V I 0,V I 0,V I 0,V I 0,V I 0,V I 0,V I 0,V I 0,V I 0,V I 0,V I 0,V I 0,V I 0,V I 0,V I 0,V I 0,V I 0,V I 0,V I 0,V I 0,V I 0,V I 0] 79))
 have B0:=AS (eA (eA (eA (fA w.heap.size w) (O #[V I c.nodes,V I c.blocks,V I c.tokens,V I c.sets,V I c.ways,V I c.cap,V I c.wait,V I c.tries,V I c.policy] 23)) (O #[V I 0,V I 0,V I 0,V I 0,V I 0,V I 0,V I 0,V I 0,V I 0,V I 0,V I 0,V I 0,V I 0,V I 0,V I 0,V I 0,V I 0,V I 0,V I 0,V I 0,V I 0,V I 0,V I 0] 79)) (O #[V I 0,V I 0,V I 0,V I 0,V I 0,V I 0,V I 0,V I 0,V I 0,V I 0,V I 0,V I 0,V I 0,V I 0,V I 0,V I 0,V I 0,V I 0,V I 0,V I 0,V I 0,V I 0,V I 0] 79))
 have SZ:=AS (show(((w.alloc (O #[V I c.nodes,V I c.blocks,V I c.tokens,V I c.sets,V I c.ways,V I c.cap,V I c.wait,V I c.tries,V I c.policy] 23)).alloc (O #[V I 0,V I 0,V I 0,V I 0,V I 0,V I 0,V I 0,V I 0,V I 0,V I 0,V I 0,V I 0,V I 0,V I 0,V I 0,V I 0,V I 0,V I 0,V I 0,V I 0,V I 0,V I 0,V I 0] 79)).alloc (O #[V I 0,V I 0,V I 0,V I 0,V I 0,V I 0,V I 0,V I 0,V I 0,V I 0,V I 0,V I 0,V I 0,V I 0,V I 0,V I 0,V I 0,V I 0,V I 0,V I 0,V I 0,V I 0,V I 0] 79)).heap.size=w.heap.size+3 from by rw[rA,rA,rA])
 clear hR hc hok
 have hf41:=field41
 simp only[cfgV] at NW ⊢
 go_enter Tryz.func17,Tryz.ntmps17
 go_upto_region 2 with fail
 generalize ((w.alloc (O #[V I c.nodes,V I c.blocks,V I c.tokens,V I c.sets,V I c.ways,V I c.cap,V I c.wait,V I c.tries,V I c.policy] 23)).alloc (O #[V I 0,V I 0,V I 0,V I 0,V I 0,V I 0,V I 0,V I 0,V I 0,V I 0,V I 0,V I 0,V I 0,V I 0,V I 0,V I 0,V I 0,V I 0,V I 0,V I 0,V I 0,V I 0,V I 0] 79)).alloc (O #[V I 0,V I 0,V I 0,V I 0,V I 0,V I 0,V I 0,V I 0,V I 0,V I 0,V I 0,V I 0,V I 0,V I 0,V I 0,V I 0,V I 0,V I 0,V I 0,V I 0,V I 0,V I 0,V I 0] 79)=W at C1 C2 BN B0 SZ ⊢
 have e0_:=cw BN.out 0 (v:=V I c.nodes)
 have e1_:=cw BN.out 1 (v:=V I c.blocks)
 have e2_:=cw BN.out 2 (v:=V I c.tokens)
 have e3_:=cw BN.out 3 (v:=V I c.sets)
 have e4_:=cw BN.out 4 (v:=V I c.ways)
 have e5_:=cw BN.out 5 (v:=V I c.cap)
 have e6_:=cw BN.out 6 (v:=V I c.wait)
 have e7_:=cw BN.out 7 (v:=V I c.tries)
 have e8_:=cw BN.out 8 (v:=V I c.policy)
 go_wp2_with fail
 refine(NW.out W).mono ?_
 rintro e w1 ⟨b,rfl,hW1,hb1⟩
 have R0:=AS (show CntI c (cntL c (l.take 0)).1 (cntL c (l.take 0)).2 b (w.heap.size+2) (w.heap.size+1) w w1 from by
  have hz1:=SZ.out
  have hz2:=hb1.size
  refine⟨fun x=>W.heap.size≤x/\x < w1.heap.size,hW1.keep (qB (fun _=>False) _) (fun x hx h=>⟨⟨h,hx⟩,id⟩),fun x h=>⟨vB,h.2⟩,C2.out.below hb1,C1.out.below hb1,fun h=>?_,fun h=>?_,vB,vB,vB,B0.out.trans (hb1.mono vB)⟩
  ·have:=h.1;omega
  ·have:=h.1;omega)
 clear hW1 hb1 NW e0_ e1_ e2_ e3_ e4_ e5_ e6_ e7_ e8_
 generalize w.heap.size+2=g at R0 ⊢
 generalize w.heap.size+1=r at R0 ⊢
 clear C1 C2 BN B0 SZ
 go_wp2_with fail
 go_loopw [10,11,12,13,15,27] (fun v10 v11 v12 v13 v15 v27 wr=>∃ i:Nat,v27=V I i/\i≤l.length/\Aside0 (CntI c (cntL c (l.take i)).1 (cntL c (l.take i)).2 b g r w wr)) (fun _ _ _ _ _ v27 _=>l.length+1 - (intOf v27).toNat)
 case atStart=>exact⟨0,rfl,vB,R0⟩
 case round =>
  obtain⟨i,rfl,hi,RL⟩:=hrel
  by_cases hcc:i < l.length
  ·have r4:=RL.out
   obtain⟨-,-,-,-,-,-,-,-,-,-,r4⟩:=r4
   have q0:(0:Int)≤(i:Int):=vB
   have q1:(i:Int) < (l.length:Int):=vB
   obtain⟨gl,cl,e,-,-,hgl,hcell⟩:=own_some RR.out hcc
   injection e with e1 e2 e3
   subst e1 e3
   have m0:wr.cell? ⟨gl,i * 5+0,U⟩=M (V I (l.getD i ent0).kind):=((bcell r4).1 gl _ hgl).trans ((hcell 0 yB).trans rfl)
   have m1:wr.cell? ⟨gl,i * 5+1,U⟩=M (V I (l.getD i ent0).a):=((bcell r4).1 gl _ hgl).trans ((hcell 1 yB).trans rfl)
   have m2:wr.cell? ⟨gl,i * 5+2,U⟩=M (V I (l.getD i ent0).b):=((bcell r4).1 gl _ hgl).trans ((hcell 2 yB).trans rfl)
   have m3:wr.cell? ⟨gl,i * 5+3,U⟩=M (V I (l.getD i ent0).c):=((bcell r4).1 gl _ hgl).trans ((hcell 3 yB).trans rfl)
   have m4:wr.cell? ⟨gl,i * 5+4,U⟩=M (V I (l.getD i ent0).d):=((bcell r4).1 gl _ hgl).trans ((hcell 4 yB).trans rfl)
   have m0':wr.cell? ⟨gl,i * 5,U⟩=M (V I (l.getD i ent0).kind):=m0
   have hok:=OK.out i hi
   have heo:=EOK.out i hcc
   have SN:=cntL_snoc c l hcc
   have hfs:=cntL_fst c l i hi
   rw[<- hfs] at hok heo
   obtain⟨en,hen⟩:∃ en,l.getD i ent0=en:=⟨_,rfl⟩
   rw[hen] at m0 m0' m1 m2 m3 m4 SN heo
   clear hen hcell hgl m0 hfs
   obtain⟨k_,a_,b_,c_,d_⟩:=en
   simp only at m0' m1 m2 m3 m4
   have RLL:=RL
   generalize cntL c (l.take i)=a0 at RLL SN hok heo
   obtain⟨s,cs⟩:=a0
   have SN1:=AS SN
   have HOK:=AS (qA hok.1 hok.2.1)
   have HEO:=AS heo
   have XB:=AS (nA wr (O #[V I k_,V I a_,V I b_,V I c_,V I d_] 33))
   have BB:=AS (eA (fA wr.heap.size wr) (O #[V I k_,V I a_,V I b_,V I c_,V I d_] 33))
   have RW:=AS RLL.out
   have SH:=AS (show bB dA 10 _ (wr.alloc (O #[V I k_,V I a_,V I b_,V I c_,V I d_] 33)) _ from by obtain⟨F,h1,-⟩:=RW.out.below BB.out;exact worldShot_new h1 HOK.out.1 HC.out)
   have hbx:(wr.alloc (O #[V I k_,V I a_,V I b_,V I c_,V I d_] 33)).heap.size=wr.heap.size+1:=by rw[rA]
   have HBX:=AS hbx
   clear SN hok heo RLL RL r4 hbx
   go_upto_region 8 with fail
   generalize wr.alloc (O #[V I k_,V I a_,V I b_,V I c_,V I d_] 33)=W1 at XB BB SH HBX ⊢
   clear m0' m1 m2 m3 m4
   go_wp2_with fail
   refine SH.out.mono ?_
   rintro e w2 ⟨Ap,Ah,Af,np,cp,nh,ch,nf,cf,ps,rfl,hS,hb2,hfr⟩
   have X2:=AS (kA XB.out hb2)
   have B2:=AS (BB.out.trans (hb2.mono (by have:=HBX.out;omega)))
   have O2:=AS (show OwnE letE (J Af nf cf) s.way w2/\∀ x∈foot (J Af nf cf),W1.heap.size < x from⟨hS.2.2.2.2.2.1,hfr⟩)
   have hnf:nf=s.way.length:=hS.2.2.2.2.2.2.2
   subst hnf
   obtain⟨F,hWF,hF,hnext⟩:=RW.out.step B2.out
   have ST:=AS (worldStep_any (e:=⟨k_,a_,b_,c_,d_⟩) hWF (WOk.bounds HC.out HOK.out.1 (by have:=HOK.out.2;omega) rfl rfl rfl))
   have HF:=AS hF
   have NX:=AS hnext
   have HWS:=AS (wok_step HC.out HOK.out.1 (by have:=HOK.out.2;omega) ⟨k_,a_,b_,c_,d_⟩)
   clear hS hb2 hfr SH hWF hF hnext
   simp only[shotV]
   simp only[entV] at ST
   go_upto_region 9 with fail
   have x0:=cw X2.out 0 (v:=V I k_)
   have x1:=cw X2.out 1 (v:=V I a_)
   have x2:=cw X2.out 2 (v:=V I b_)
   have x3:=cw X2.out 3 (v:=V I c_)
   have x4:=cw X2.out 4 (v:=V I d_)
   go_wp2_with fail
   refine ST.out.mono ?_
   rintro e w3 ⟨Ad,nd,cd,rfl,hW3,hO3,hk3⟩
   have N3:=AS (NX.out _ w3 hW3 hk3)
   have X3:=AS (hk3.at_ X2.out (fun h=>by have:=HF.out _ h;omega))
   have L3:=AS (O2.out.1.ks hk3 (fun x hx h=>by have:=HF.out x h;have:=O2.out.2 x hx;have:=HBX.out;omega))
   have D3:=AS hO3
   clear hW3 hO3 hk3 ST NX HF x0 x1 x2 x3 x4 X2 B2 O2 RW BB XB
   have SN2:=SN1.out
   have heo:=HEO.out
   unfold cntF at SN2
   unfold EntOk at heo
   generalize s.step c ⟨k_,a_,b_,c_,d_⟩=ST at N3 D3 HWS SN2 heo ⊢
   obtain⟨s',rk,dk⟩:=ST
   simp only at SN2 heo
   obtain⟨⟨hr0,hr1⟩,hl1,hl2,heo⟩:=heo
   obtain⟨kk,rfl⟩:∃ kk:Nat,rk=kk:=⟨rk.toNat,vB⟩
   simp only[Int.toNat_natCast] at SN2
   have SN3:=AS SN2
   have HEO2:=AS (qA hl1 (qA hl2 heo))
   clear SN2 heo SN1 HEO
   have hnd:nd=dk.length:=by obtain⟨A,c,e,-⟩:=D3.out.row;injection e
   subst hnd
   obtain⟨cg,zg⟩:w3.cell? ⟨g,kk,U⟩=M (V I (cs.getD kk 0))/\w3.frozen? ⟨g,kk,U⟩=false:=by
    obtain⟨F,-,-,h3,-⟩:=N3.out
    exact⟨h3.cell vB,h3.frozen⟩
   have N4:=AS (show CntI c s' (bump cs kk) b g r w (w3.setCell ⟨g,kk,U⟩ (V I (wrap64 (cs[kk]?.getD 0+1)))) from by
    have hN:=N3.out
    obtain⟨F,-,-,h3,-⟩:=hN
    exact N3.out.turn (KS.set (qB (fun x=>x=g) w3) (.inl rfl) kk _) (h3.bump2 (by rw[cB])))
   have K4:=AS (KS.set (qB (fun x=>x=g) w3) (.inl rfl) kk (V I (wrap64 (cs[kk]?.getD 0+1))) (g:=g))
   have HG:=AS (show w3.heap[g]?=M (O (cs.map fun v=>Value.int .i64 v).toArray 79 (0,0))/\wr.heap.size≠g from by
    have hN:=N3.out
    obtain⟨F,-,-,h3,-⟩:=hN
    refine⟨h3.1,fun e=>?_⟩
    have h:=X3.out
    rw[e,h3.1] at h
    simp at h)
   go_upto_if 48 with fail
   have X4:=AS (K4.out.at_ X3.out HG.out.2)
   have L4:=AS (L3.out.ks K4.out (fun x hx e=>own_apart_blk L3.out HG.out.1 yB (by have e':x=g:=e;rw[<- e'];exact hx)))
   have D4:=AS (D3.out.ks K4.out (fun x hx e=>own_apart_blk D3.out HG.out.1 yB (by have e':x=g:=e;rw[<- e'];exact hx)))
   generalize w3.setCell ⟨g,kk,U⟩ (V I (wrap64 (cs[kk]?.getD 0+1)))=W4 at N4 X4 L4 D4 ⊢
   clear cg zg N3 X3 L3 D3 K4
   go_cut [] (fun wx=>∃ cs2,cs2=(if (kk:Int)=1 then entryN (bump cs kk) ⟨k_,a_,b_,c_,d_⟩ s.way s'.way else bump cs kk)/\CntI c s' cs2 b g r w wx/\OwnE doneE (J Ad dk.length cd) dk wx)
   case first =>
    by_cases hk1:(kk:Int)=1
    ·have dk1:((kk:Int) == 1)=true:=by simp[hk1]
     obtain⟨he1,he2,he3⟩:=HEO2.out
     obtain⟨he4,he5,he6⟩:=he3 hk1
     have HE:=AS (qA (qA he1 he2) (qA he4 (qA he5 he6)))
     have HK1:=AS hk1
     have SH2:=AS (fun X (hb:Below W4.heap.size W4 X)=>(N4.out.below hb).shot HWS.out HC.out)
     have KEEP:=AS (show ∀ x,KS (fun y=>y=g) W4 x->(x.cell? ⟨wr.heap.size,0,U⟩=M (V I k_)/\x.cell? ⟨wr.heap.size,1,U⟩=M (V I a_)/\x.cell? ⟨wr.heap.size,2,U⟩=M (V I b_)/\x.cell? ⟨wr.heap.size,3,U⟩=M (V I c_)/\x.cell? ⟨wr.heap.size,4,U⟩=M (V I d_)) from fun x hb=>⟨cw (hb.at_ X4.out HG.out.2) 0,cw (hb.at_ X4.out HG.out.2) 1,cw (hb.at_ X4.out HG.out.2) 2,cw (hb.at_ X4.out HG.out.2) 3,cw (hb.at_ X4.out HG.out.2) 4⟩)
     clear he1 he2 he3 he4 he5 he6 hk1
     go_upto_region 12 with fail
     obtain⟨x0,x1,x2,x3,x4⟩:=KEEP.out W4 (qB _ _)
     go_region_held3 (fun x=>x.cell? ⟨wr.heap.size,0,U⟩=M (V I k_)/\x.cell? ⟨wr.heap.size,1,U⟩=M (V I a_)/\x.cell? ⟨wr.heap.size,2,U⟩=M (V I b_)/\x.cell? ⟨wr.heap.size,3,U⟩=M (V I c_)/\x.cell? ⟨wr.heap.size,4,U⟩=M (V I d_)) ((refine KEEP.out _ ?_;(repeat (with_reducible first | exact qB _ _ | exact K6.out | exact K5.out | apply sB)))) ((first | (go_at_call 10;refine(SH2.out _ ?_).mono ?_;(focus ((repeat (with_reducible first | exact fA _ _ | apply iA))));rintro e w5 ⟨Aq,Ah2,Af2,np2,cp2,nh2,ch2,nf2,cf2,ps2,rfl,hS,hb5⟩;have B5:=AS (show Below W4.heap.size W4 w5 from(iA (fA _ _)).trans (hb5.mono (pA _)));have K5:=AS (pB (fun y=>y=g) B5.out);have N5:=AS (N4.out.below B5.out);have L5:=AS (L4.out.ks (pB (fun _=>False) B5.out) (fun _ _=>id));have D5:=AS (D4.out.ks (pB (fun _=>False) B5.out) (fun _ _=>id));have hnf2:nf2=s'.way.length:=hS.2.2.2.2.2.2.2;subst hnf2;have O5:=AS (show OwnE letE (J Af2 s'.way.length cf2) s'.way w5 from hS.2.2.2.2.2.1);clear hS hb5;simp only[shotV]) | (go_at_call 42;refine(entry_any N5.out.cnt L5.out O5.out ⟨own_apart_blk L5.out N5.out.cnt.1 yB,own_apart_blk O5.out N5.out.cnt.1 yB⟩ k_ a_ b_ c_ d_ HE.out.2.1 HE.out.1 (by rw[kindsN_snd _ []];exact HE.out.2.2)).mono ?_;rintro e w6 ⟨rfl,hC6,hk6⟩;have K6:=AS (K5.out.trans hk6 (fun _ _ h=>h));have N6:=AS (N5.out.turn hk6 hC6);have D6:=AS (D5.out.ks hk6 (fun x hx e=>own_apart_blk D5.out N5.out.cnt.1 yB (by have e':x=g:=e;rw[<- e'];exact hx)));clear hC6 hk6)))
     all_goals
      go_wp2_with fail
      go_meet
      exact⟨_,(if_pos HK1.out).symm,N6.out,D6.out⟩
    ·have dk1:((kk:Int) == 1)=false:=by simp[hk1]
     go_wp2_with fail
     go_meet
     exact⟨_,(if_neg hk1).symm,N4.out,D4.out⟩
   case rest =>
    obtain⟨cs2,hcs2,hN5,hD5⟩:=hcut
    rw[<- hcs2] at SN3
    have R5:=AS (show ∃ cs3,CntI c s' cs3 b g r w wc/\OwnE doneE (J Ad dk.length cd) dk wc/\doneN cs3 (dk.drop 0)=(cntL c (l.take (i+1))).2 from⟨cs2,hN5,hD5,by rw[SN3.out];rfl⟩)
    clear hN5 hD5 N4 D4 L4 X4 hcs2
    go_wp2_with fail
    go_loopw [15,57] (fun v15 v57 wr=>∃ j:Nat,v57=V I j/\j≤dk.length/\Aside0 (∃ cs3,CntI c s' cs3 b g r w wr/\OwnE doneE (J Ad dk.length cd) dk wr/\doneN cs3 (dk.drop j)=(cntL c (l.take (i+1))).2)) (fun _ v57 _=>dk.length+1 - (intOf v57).toNat)
    case atStart=>exact⟨0,rfl,vB,R5⟩
    case round =>
     obtain⟨j,rfl,hj,RJ⟩:=hrel
     obtain⟨cs3,r1,r2,r3⟩:=RJ.out
     by_cases hjj:j < dk.length
     ·have q2:(0:Int)≤(j:Int):=vB
      have q3:(j:Int) < (dk.length:Int):=vB
      obtain⟨gd,cd2,e,hb3,hb4,hgd,hcell⟩:=own_some r2 hjj
      injection e with e1 e2 e3
      subst e1 e3
      have m0:wr.cell? ⟨gd,j * 7,U⟩=M (V I (dk.getD j done0).node):=(hcell 0 yB).trans rfl
      have m1:wr.cell? ⟨gd,j * 7+1,U⟩=M (V I (dk.getD j done0).number):=(hcell 1 yB).trans rfl
      have m2:wr.cell? ⟨gd,j * 7+2,U⟩=M (V I (dk.getD j done0).op.block):=(hcell 2 yB).trans rfl
      have m3:wr.cell? ⟨gd,j * 7+3,U⟩=M (aA (dk.getD j done0).op.write):=(hcell 3 yB).trans rfl
      have m4:wr.cell? ⟨gd,j * 7+4,U⟩=M (V I (dk.getD j done0).op.value):=(hcell 4 yB).trans rfl
      have m5:wr.cell? ⟨gd,j * 7+5,U⟩=M (V I (dk.getD j done0).value):=(hcell 5 yB).trans rfl
      have m6:wr.cell? ⟨gd,j * 7+6,U⟩=M (V I (dk.getD j done0).step):=(hcell 6 yB).trans rfl
      have hdr:dk.drop j=dk.getD j done0 :: dk.drop (j+1):=by rw[List.drop_eq_getElem_cons hjj,cB,dB hjj,Option.getD_some]
      rw[hdr] at r3
      obtain⟨x,hx⟩:∃ x,dk.getD j done0=x:=⟨_,rfl⟩
      rw[hx] at r3 m0 m1 m2 m3 m4 m5 m6
      clear hx hcell hdr
      obtain⟨nd,nu,⟨bl,wt,ov⟩,va,st⟩:=x
      simp only at m0 m1 m2 m3 m4 m5 m6
      have r3:doneN (bump cs3 (if wt then 6 else 5)) (dk.drop (j+1))=(cntL c (l.take (i+1))).2:=r3
      have N7:=AS (r1.below (eA (fA wr.heap.size wr) (O #[V I nd,V I nu,V I bl,aA wt,V I ov,V I va,V I st] 59)))
      have D7:=AS (r2.ks (pB (fun _=>False) (eA (fA wr.heap.size wr) (O #[V I nd,V I nu,V I bl,aA wt,V I ov,V I va,V I st] 59))) (fun _ _=>id))
      have X7:=AS (nA wr (O #[V I nd,V I nu,V I bl,aA wt,V I ov,V I va,V I st] 59))
      have R3:=AS r3
      clear r1 r2 r3
      go_upto_region 16 with fail
      generalize wr.alloc (O #[V I nd,V I nu,V I bl,aA wt,V I ov,V I va,V I st] 59)=W7 at N7 D7 X7 ⊢
      have xb3:=cw X7.out 3 (v:=aA wt)
      have DA:=AS (show g∉foot (J (M ⟨gd,0,U⟩) dk.length cd) from own_apart_blk D7.out N7.out.cnt.1 yB)
      clear m0 m1 m2 m3 m4 m5 m6
      cases wt with
      | true =>
       have c6:W7.cell? ⟨g,6,U⟩=M (V I (cs3.getD 6 0)):=N7.out.cnt.cell yB
       have z6:W7.frozen? ⟨g,6,U⟩=false:=N7.out.cnt.frozen
       have R4:=AS (show doneN (bump cs3 6) (dk.drop (j+1))=(cntL c (l.take (i+1))).2 from R3.out)
       go_wp2
       go_roundw
       case rel=>exact⟨j+1,by go_num,vB,⟨⟨_,N7.out.turn (KS.set (qB (fun x=>x=g) W7) (.inl rfl) 6 _) (N7.out.cnt.bump2 (j:=6) zB),D7.out.ks (KS.set (qB (fun x=>x=g) W7) (.inl rfl) 6 _) (fun x hx e=>DA.out (by have e':x=g:=e;rw[<- e'];exact hx)),R4.out⟩⟩⟩
       case measure=>simp[intOf];omega
      | false =>
       have c6:W7.cell? ⟨g,5,U⟩=M (V I (cs3.getD 5 0)):=N7.out.cnt.cell yB
       have z6:W7.frozen? ⟨g,5,U⟩=false:=N7.out.cnt.frozen
       have R4:=AS (show doneN (bump cs3 5) (dk.drop (j+1))=(cntL c (l.take (i+1))).2 from R3.out)
       go_wp2
       go_roundw
       case rel=>exact⟨j+1,by go_num,vB,⟨⟨_,N7.out.turn (KS.set (qB (fun x=>x=g) W7) (.inl rfl) 5 _) (N7.out.cnt.bump2 (j:=5) zB),D7.out.ks (KS.set (qB (fun x=>x=g) W7) (.inl rfl) 5 _) (fun x hx e=>DA.out (by have e':x=g:=e;rw[<- e'];exact hx)),R4.out⟩⟩⟩
       case measure=>simp[intOf];omega
     ·have hjn:j=dk.length:=vB
      subst hjn
      rw[List.drop_length] at r3
      have r3:cs3=(cntL c (l.take (i+1))).2:=r3
      have E1:=AS (show CntI c (cntL c (l.take (i+1))).1 (cntL c (l.take (i+1))).2 b g r w wr from by rw[<- r3,SN3.out];exact r1)
      clear r1 r2 r3
      go_wp2_with fail
      go_roundw
      case rel=>exact⟨i+1,by go_num,vB,E1⟩
      case measure=>simp[intOf];omega
  ·have hin:i=l.length:=vB
   subst hin
   have e1:l.take l.length=l:=List.take_length
   rw[e1] at RL
   obtain⟨F,-,-,h3,h4,-,-,h7,h8,h9,h10⟩:=RL.out
   obtain⟨w9,hst,hC9,hk9⟩:=store79 h4 h3.2
   have HST:=AS hst
   have C3:=AS h3
   have C9:=AS hC9
   have B9:=AS (h10.trans (hk9.toBelow (fun y hy=>by have hy':y=r:=hy;omega) h10.size))
   clear hst h3 h4 h7 h8 h9 h10 hk9 hC9
   go_wp2_with (first | (refine wpList_load79 rfl _ rfl g rfl _ C3.out ?_) | (refine wpList_store79 rfl _ _ rfl r rfl _ rfl w9 HST.out ?_) | fail)
   refine yA (v:=.tuple #[cntV (cntL c l).2,V I 0]) (res17 C9.out _ rfl rfl) rfl ?_
   exact⟨rfl,B9.out⟩
end Go.Proofs.YtiebppkhaiofeaaGreat.K
