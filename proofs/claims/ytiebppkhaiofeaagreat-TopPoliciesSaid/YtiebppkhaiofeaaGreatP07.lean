/- Part of the proof of TopPolicies: what functions of the program do. -/
import Derived.Test.YtiebppkhaiofeaaGreatP06
import Derived.Test.YtiebppkhaiofeaaGreatP00
set_option maxHeartbeats 4000000
set_option maxRecDepth 100000
set_option linter.unusedVariables false
set_option linter.unusedSimpArgs false
open Go.IntKind renaming i64→I
open Go.Value renaming slice→J, int→V, bool→aA, pointer→bA
open Option renaming some→M, none→U
open Go.Obj renaming cells→O
open Go.ChangeMaps renaming setBlock→aB
open Go renaming Calls→bB, World→cA, bodyPost_ret→yA
open List renaming getD_eq_getElem?_getD→cB, getElem?_eq_getElem→dB, mem_cons_of_mem→kB, mem_singleton→tA, mem_cons_self→wA
open Go.Proofs.Tryz renaming prog→dA
open Go.Proofs.YtiebppkhaiofeaaGreatW.PrintWords renaming below_alloc→eA, blk_lt→eB, blk_frozen→jA, blk_below→kA, blk_alloc→lA, blk_set→mA, blk_new→nA
open Go.RowKit.Below renaming refl→fA, drew→iA, setCell→oA
open Go.Proofs.YtiebppkhaiofeaaGreat.K renaming rec_old→jB
open Nat renaming le_trans→lB, le_refl→pA
open Go.Proofs.YtiebppkhaiofeaaGreat.K.KS renaming below→pB, refl→qB, drew→sB
open And renaming intro→qA
open Go.World renaming size_alloc→rA
open Bool renaming false_eq_true→vA
namespace Go.Proofs.YtiebppkhaiofeaaGreat.K
open Go.RowKit Go.Proofs.YtiebppkhaiofeaaGreatW.PrintWords Go.Proofs.YtiebppkhaiofeaaGreat.S
attribute [local go_sem] World.cell?_alloc_some
def tgN (c:Cfg) (self:Int) (d:Drw) (n:Nat):List Int:=((List.range n).map fun(i:Nat)=>(i:Int)).filter fun n=>S.asks c d n && n != self
theorem tgN_succ (c:Cfg) (self:Int) (d:Drw) (n:Nat):tgN c self d (n+1)=if (S.asks c d n && (n:Int) != self)=true then tgN c self d n ++ [(n:Int)] else tgN c self d n:=by
 unfold tgN
 rw[List.range_succ,List.map_append,List.filter_append]
 by_cases h:(S.asks c d n && (n:Int) != self)=true
 ·rw[if_pos h];simp only[List.map_cons,List.map_nil,List.filter_cons,h,if_true,List.filter_nil]
 ·rw[if_neg h]
  have h':(S.asks c d n && (n:Int) != self)=false:=by simpa using h
  simp only[List.map_cons,List.map_nil,List.filter_cons,h',List.filter_nil,List.append_nil,vA,if_false]
theorem tgN_len (c:Cfg) (self:Int) (d:Drw) (n:Nat):(tgN c self d n).length≤n:=by
 unfold tgN
 refine lB (List.length_filter_le _ _) zB
def NewInts (xs:List Int) (w:cA) (e:Ending) (w':cA):Prop:=∃ v,e=.returned v/\OwnE intE v xs w'/\(∀ x∈foot v,w.heap.size≤x)/\Below w.heap.size w w'
theorem targets_any (c:Cfg) (self:Int) (d:Drw) (w:cA):bB dA 113 #[cfgV c,V I self,drwV d] w (NewInts (targets c self d) w):=by
 obtain⟨nn,b,t,se,wa,ca,wt,tr,po⟩:=c
 obtain⟨x,y,z⟩:=d
 simp only[cfgV,drwV]
 have XC:=AS (lA (nA w (O #[V I nn,V I b,V I t,V I se,V I wa,V I ca,V I wt,V I tr,V I po] 23)) (O #[V I x,V I y,V I z] 74))
 have XD:=AS (show((w.alloc (O #[V I nn,V I b,V I t,V I se,V I wa,V I ca,V I wt,V I tr,V I po] 23)).alloc (O #[V I x,V I y,V I z] 74)).heap[w.heap.size+1]?=M (O #[V I x,V I y,V I z] 74) from by have:=nA (w.alloc (O #[V I nn,V I b,V I t,V I se,V I wa,V I ca,V I wt,V I tr,V I po] 23)) (O #[V I x,V I y,V I z] 74);simpa using this)
 have B0:=AS (eA (eA (fA w.heap.size w) (O #[V I nn,V I b,V I t,V I se,V I wa,V I ca,V I wt,V I tr,V I po] 23)) (O #[V I x,V I y,V I z] 74))
 by_cases q1:nn > 64
 ·rw[show targets ⟨nn,b,t,se,wa,ca,wt,tr,po⟩ self ⟨x,y,z⟩=[] from if_pos q1]
  go_enter Tryz.func113,Tryz.ntmps113
  go_wp2
  go_ret
  exact⟨_,rfl,OwnE.nil _,by simp[foot_nil],B0.out⟩
 ·rw[show targets ⟨nn,b,t,se,wa,ca,wt,tr,po⟩ self ⟨x,y,z⟩=tgN ⟨nn,b,t,se,wa,ca,wt,tr,po⟩ self ⟨x,y,z⟩ (nn+1).toNat from if_neg q1]
  have q1':¬ (64 < nn):=vB
  clear q1
  go_enter Tryz.func113,Tryz.ntmps113
  go_wp2
  generalize ((w.alloc (O #[V I nn,V I b,V I t,V I se,V I wa,V I ca,V I wt,V I tr,V I po] 23)).alloc (O #[V I x,V I y,V I z] 74))=W0 at XC XD B0 ⊢
  go_loopw [7,8] (fun v7 v8 wr=>∃ (i:Nat),v8=V I i/\((i:Int)≤nn+1∨i=0)/\Aside0 (OwnE intE v7 (tgN ⟨nn,b,t,se,wa,ca,wt,tr,po⟩ self ⟨x,y,z⟩ i) wr/\Below w.heap.size w wr/\(∀ x∈foot v7,w.heap.size≤x)/\wr.heap[w.heap.size]?=M (O #[V I nn,V I b,V I t,V I se,V I wa,V I ca,V I wt,V I tr,V I po] 23)/\wr.heap[w.heap.size+1]?=M (O #[V I x,V I y,V I z] 74)/\∀ q∈foot v7,q≠w.heap.size/\q≠w.heap.size+1)) (fun _ v8 _=>70 - (intOf v8).toNat)
  case atStart=>exact⟨0,rfl,.inr rfl,⟨OwnE.nil _,B0.out,by simp[foot_nil],XC.out,XD.out,by simp[foot_nil]⟩⟩
  case round =>
   obtain⟨i,rfl,hi,R⟩:=hrel
   obtain⟨A,cp,rfl,-,hcp,-,-⟩:=R.out.1.row
   have c0:=cw R.out.2.2.2.1 0 (v:=V I nn)
   have c1:=cw R.out.2.2.2.1 1 (v:=V I b)
   have c2:=cw R.out.2.2.2.1 2 (v:=V I t)
   have c3:=cw R.out.2.2.2.1 3 (v:=V I se)
   have c4:=cw R.out.2.2.2.1 4 (v:=V I wa)
   have c5:=cw R.out.2.2.2.1 5 (v:=V I ca)
   have c6:=cw R.out.2.2.2.1 6 (v:=V I wt)
   have c7:=cw R.out.2.2.2.1 7 (v:=V I tr)
   have c8:=cw R.out.2.2.2.1 8 (v:=V I po)
   have d0:=cw R.out.2.2.2.2.1 0 (v:=V I x)
   have d1:=cw R.out.2.2.2.2.1 1 (v:=V I y)
   have d2:=cw R.out.2.2.2.2.1 2 (v:=V I z)
   by_cases c1:(i:Int)≤nn
   ·have hi64:i≤64:=vB
    have hqr:((i:Int).tdiv 64=0/\(i:Int).tmod 64=i)∨((i:Int).tdiv 64=1/\(i:Int).tmod 64=0/\i=64):=by
     by_cases h:i=64
     ·subst h;exact .inr yB
     ·exact .inl ⟨Int.tdiv_eq_zero_of_lt vB vB,Int.tmod_eq_of_lt vB vB⟩
    generalize hbv:bitOf (Drw.get ⟨x,y,z⟩ ((i:Int).tdiv 64)) ((i:Int).tmod 64)=bv
    by_cases p1:po=1
    ·subst p1
     have HAS:=AS (show S.asks ⟨nn,b,t,se,wa,ca,wt,tr,1⟩ ⟨x,y,z⟩ i=true from rfl)
     have HBV:=AS hbv
     clear hbv hqr
     by_cases ns:(i:Int)=self
     ·subst ns
      have HNS:=AS (show ¬ (true && ((i:Int) != (i:Int)))=true by simp)
      have RR:=AS R.out
      clear R
      go_wp2_with (go_at_call 144;refine(bit_any _ _ _).mono ?_;rintro e wb ⟨rfl,rfl⟩;rw[HBV.out])
      go_roundw
      case rel =>
       refine⟨i+1,by go_num,vB,⟨?_,RR.out.2⟩⟩
       rw[tgN_succ,if_neg (by rw[HAS.out];exact HNS.out)]
       exact RR.out.1
      case measure=>simp[intOf];omega
     ·have HNS:=AS (show((i:Int) != self)=true by simp[ns])
      have hns:((i:Int) != self)=true:=HNS.out
      clear ns
      have OA:=AS (R.out.1.keep (Keeps.below [] (eA (fA _ wr) (O #[V I (i:Int)] 3))) zB)
      have RA:=AS (rowE_one (E:=intE) (x:=(i:Int)) (nA wr (O #[V I (i:Int)] 3)))
      have BA:=AS (eA R.out.2.1 (O #[V I (i:Int)] 3))
      have XA:=AS (qA (lA R.out.2.2.2.1 (O #[V I (i:Int)] 3)) (lA R.out.2.2.2.2.1 (O #[V I (i:Int)] 3)))
      have FT:=AS (qA R.out.2.2.1 R.out.2.2.2.2.2)
      have HL:=AS (tgN_len ⟨nn,b,t,se,wa,ca,wt,tr,1⟩ self ⟨x,y,z⟩ i)
      clear R
      go_wp2_with (first | (at_builtin;refine list_appE (E:=intE) (xs:=tgN ⟨nn,b,t,se,wa,ca,wt,tr,1⟩ self ⟨x,y,z⟩ i) (ys:=[(i:Int)]) xB _ _ rfl rfl rfl rfl (by exact OA.out) (by exact RA.out) (by have:=HL.out;show _ * 8≤_;simp;omega) ?_;intro v1 w1 hO hK hf;obtain⟨A1,n1,k1,rfl⟩:∃ A n c,v1=J A n c:=(by obtain⟨A,c,h,_⟩:=OwnE.row hO;exact⟨_,_,_,h⟩);have O1:=AS hO;have K1:=AS hK;have F1:=AS hf;clear hO hK hf) | (go_at_call 144;refine(bit_any _ _ _).mono ?_;rintro e wb ⟨rfl,rfl⟩;rw[HBV.out]))
      go_roundw
      case rel =>
       have hs:=BA.out.size
       rw[rA] at hs
       have hnf:∀ q∈foot (J A (tgN ⟨nn,b,t,se,wa,ca,wt,tr,1⟩ self ⟨x,y,z⟩ i).length cp),q≠w.heap.size/\q≠w.heap.size+1:=FT.out.2
       refine⟨i+1,by go_num,vB,⟨?_,?_,?_,?_,?_,?_⟩⟩
       ·rw[tgN_succ,if_pos (by rw[HAS.out,HNS.out];rfl)]
        exact O1.out
       ·exact BA.out.trans (K1.out.toBelow FT.out.1 (by simpa using hs))
       ·intro q hq
        rcases F1.out with e | e
        ·rw[e] at hq;exact FT.out.1 q hq
        ·rw[e] at hq;simp at hq;omega
       ·exact K1.out.at_ XA.out.1 (fun h=>(hnf _ h).1 rfl)
       ·exact K1.out.at_ XA.out.2 (fun h=>(hnf _ h).2 rfl)
       ·intro q hq
        rcases F1.out with e | e
        ·rw[e] at hq;exact hnf q hq
        ·rw[e] at hq;simp at hq;have:=eB XA.out.2;simp at this;omega
      case measure=>simp[intOf];omega
    ·by_cases p2:po=2
     ·subst p2
      have HAS:=AS (show S.asks ⟨nn,b,t,se,wa,ca,wt,tr,2⟩ ⟨x,y,z⟩ i=bv by rw[<- hbv];rfl)
      have hbt:((i:Int).tdiv 64=0/\(i:Int).tmod 64=i/\bitOf x i=bv)∨((i:Int).tdiv 64=1/\(i:Int).tmod 64=0/\bitOf y 0=bv):=by
       rcases hqr with ⟨h1,h2⟩ | ⟨h1,h2,-⟩
       ·rw[h1,h2] at hbv;exact .inl ⟨h1,h2,hbv⟩
       ·rw[h1,h2] at hbv;exact .inr ⟨h1,h2,hbv⟩
      clear hbv hqr
      cases bv
      ·have HNS:=AS (show ¬ (false && ((i:Int) != self))=true by simp)
       rcases hbt with ⟨ht1,ht2,hbv⟩ | ⟨ht1,ht2,hbv⟩
       all_goals
        have HBV:=AS hbv
        clear hbv
        have RR:=AS R.out
        clear R
        go_wp2_with (go_at_call 144;refine(bit_any _ _ _).mono ?_;rintro e wb ⟨rfl,rfl⟩;rw[HBV.out])
        go_roundw
        case rel =>
         refine⟨i+1,by go_num,vB,⟨?_,RR.out.2⟩⟩
         rw[tgN_succ,if_neg (by rw[HAS.out];exact HNS.out)]
         exact RR.out.1
        case measure=>simp[intOf];omega
      ·by_cases ns:(i:Int)=self
       ·subst ns
        have HNS:=AS (show ¬ (true && ((i:Int) != (i:Int)))=true by simp)
        rcases hbt with ⟨ht1,ht2,hbv⟩ | ⟨ht1,ht2,hbv⟩
        all_goals
         have HBV:=AS hbv
         clear hbv
         have RR:=AS R.out
         clear R
         go_wp2_with (go_at_call 144;refine(bit_any _ _ _).mono ?_;rintro e wb ⟨rfl,rfl⟩;rw[HBV.out])
         go_roundw
         case rel =>
          refine⟨i+1,by go_num,vB,⟨?_,RR.out.2⟩⟩
          rw[tgN_succ,if_neg (by rw[HAS.out];exact HNS.out)]
          exact RR.out.1
         case measure=>simp[intOf];omega
       ·have HNS:=AS (show((i:Int) != self)=true by simp[ns])
        have hns:((i:Int) != self)=true:=HNS.out
        clear ns
        rcases hbt with ⟨ht1,ht2,hbv⟩ | ⟨ht1,ht2,hbv⟩
        all_goals
         have HBV:=AS hbv
         clear hbv
         have OA:=AS (R.out.1.keep (Keeps.below [] (eA (fA _ wr) (O #[V I (i:Int)] 3))) zB)
         have RA:=AS (rowE_one (E:=intE) (x:=(i:Int)) (nA wr (O #[V I (i:Int)] 3)))
         have BA:=AS (eA R.out.2.1 (O #[V I (i:Int)] 3))
         have XA:=AS (qA (lA R.out.2.2.2.1 (O #[V I (i:Int)] 3)) (lA R.out.2.2.2.2.1 (O #[V I (i:Int)] 3)))
         have FT:=AS (qA R.out.2.2.1 R.out.2.2.2.2.2)
         have HL:=AS (tgN_len ⟨nn,b,t,se,wa,ca,wt,tr,2⟩ self ⟨x,y,z⟩ i)
         clear R
         go_wp2_with (first | (at_builtin;refine list_appE (E:=intE) (xs:=tgN ⟨nn,b,t,se,wa,ca,wt,tr,2⟩ self ⟨x,y,z⟩ i) (ys:=[(i:Int)]) xB _ _ rfl rfl rfl rfl (by exact OA.out) (by exact RA.out) (by have:=HL.out;show _ * 8≤_;simp;omega) ?_;intro v1 w1 hO hK hf;obtain⟨A1,n1,k1,rfl⟩:∃ A n c,v1=J A n c:=(by obtain⟨A,c,h,_⟩:=OwnE.row hO;exact⟨_,_,_,h⟩);have O1:=AS hO;have K1:=AS hK;have F1:=AS hf;clear hO hK hf) | (go_at_call 144;refine(bit_any _ _ _).mono ?_;rintro e wb ⟨rfl,rfl⟩;rw[HBV.out]))
         go_roundw
         case rel =>
          have hs:=BA.out.size
          rw[rA] at hs
          have hnf:∀ q∈foot (J A (tgN ⟨nn,b,t,se,wa,ca,wt,tr,2⟩ self ⟨x,y,z⟩ i).length cp),q≠w.heap.size/\q≠w.heap.size+1:=FT.out.2
          refine⟨i+1,by go_num,vB,⟨?_,?_,?_,?_,?_,?_⟩⟩
          ·rw[tgN_succ,if_pos (by rw[HAS.out,HNS.out];rfl)]
           exact O1.out
          ·exact BA.out.trans (K1.out.toBelow FT.out.1 (by simpa using hs))
          ·intro q hq
           rcases F1.out with e | e
           ·rw[e] at hq;exact FT.out.1 q hq
           ·rw[e] at hq;simp at hq;omega
          ·exact K1.out.at_ XA.out.1 (fun h=>(hnf _ h).1 rfl)
          ·exact K1.out.at_ XA.out.2 (fun h=>(hnf _ h).2 rfl)
          ·intro q hq
           rcases F1.out with e | e
           ·rw[e] at hq;exact hnf q hq
           ·rw[e] at hq;simp at hq;have:=eB XA.out.2;simp at this;omega
         case measure=>simp[intOf];omega
     ·have HAS:=AS (show S.asks ⟨nn,b,t,se,wa,ca,wt,tr,po⟩ ⟨x,y,z⟩ i=false by simp[S.asks,p1,p2])
      have HNS:=AS (show ¬ (false && ((i:Int) != self))=true by simp)
      have HBV:=AS hbv
      have j1:(po == 1)=false:=by simpa using p1
      have j2:(po == 2)=false:=by simpa using p2
      clear hbv hqr p1 p2
      have RR:=AS R.out
      clear R
      go_wp2_with (go_at_call 144;refine(bit_any _ _ _).mono ?_;rintro e wb ⟨rfl,rfl⟩;rw[HBV.out])
      go_roundw
      case rel =>
       refine⟨i+1,by go_num,vB,⟨?_,RR.out.2⟩⟩
       rw[tgN_succ,if_neg (by rw[HAS.out];exact HNS.out)]
       exact RR.out.1
      case measure=>simp[intOf];omega
   ·have RR:=AS R.out
    clear R
    go_wp2
    go_ret
    have hin:(nn+1).toNat=i:=vB
    rw[hin]
    exact⟨_,rfl,RR.out.1,RR.out.2.2.1,RR.out.2.1⟩
end Go.Proofs.YtiebppkhaiofeaaGreat.K
namespace Go.Proofs.YtiebppkhaiofeaaGreat.K
open Go.RowKit Go.Proofs.YtiebppkhaiofeaaGreatW.PrintWords Go.Proofs.YtiebppkhaiofeaaGreat.S
attribute [local go_sem] World.cell?_alloc_some
open Go.ChangeMaps Go.MapKept
def NH (c:Cfg) (n:S.Node) (o:S.Out) (p:NPtr) (K:Nat->Nat) (w:cA) (B:List Nat) (w0 w':cA):Prop:=∃ K',(∀ x,x < w.heap.size->K' x=K x)/\NO c n o p K' w'/\KS (fun x=>K x≤6) w w'/\∀ x∈B,x < w'.heap.size/\K' x=7/\w'.heap[x]?=w0.heap[x]?
section
variable {c:Cfg} {n n':S.Node} {o o':S.Out} {p:NPtr} {K:Nat->Nat} {w w0 w1 w2:cA} {B:List Nat}
theorem NH.ns (h:NH c n o p K w B w0 w1):NS c n o p K w w1:=by obtain⟨K1,h1,h2,h3,-⟩:=h;exact⟨K1,h1,h2,h3⟩
theorem NH.at_ (h:NH c n o p K w B w0 w1):∀ x∈B,w1.heap[x]?=w0.heap[x]?:=by obtain⟨K1,-,-,-,h4⟩:=h;exact fun x hx=>(h4 x hx).2.2
theorem NS.hold (h:NS c n o p K w w1) (hb:Below w1.heap.size w1 w0) (hB:∀ x∈B,w1.heap.size≤x/\x < w0.heap.size):NH c n o p K w B w0 w0:=by
 obtain⟨K1,ha,hN,hk⟩:=h
 have hsz:=hk.size
 exact⟨rec_ K1 w1 7,fun x hx=>(jB vB).trans (ha x hx),hN.below hb 7,hk.trans (pB (fun _=>False) hb) (fun x _ h=>h.elim),fun x hx=>⟨(hB x hx).2,rec_new (hB x hx).1,rfl⟩⟩
theorem NH.below (h:NH c n o p K w B w0 w1) (hb:Below w1.heap.size w1 w2):NH c n o p K w B w0 w2:=by
 obtain⟨K1,ha,hN,hk,hB⟩:=h
 have hsz:=hk.size
 have hs2:=hb.size
 exact⟨rec_ K1 w1 7,fun x hx=>(jB vB).trans (ha x hx),hN.below hb 7,hk.trans (pB (fun _=>False) hb) (fun x _ h=>h.elim),fun x hx=>⟨by have:=(hB x hx).1;omega,(jB (hB x hx).1).trans (hB x hx).2.1,(hb.block x (hB x hx).1).trans (hB x hx).2.2⟩⟩
theorem NH.call {f:Nat} {args:Array Value} {v:Value} (h:NH c n o p K w B w0 w1) (hs:∀ K1,NO c n o p K1 w1->bB dA f args w1 (NOP v c n' o' p K1 w1)):bB dA f args w1 (fun e w'=>e=.returned v/\NH c n' o' p K w B w0 w'):=by
 obtain⟨K1,ha,hN,hk,hB⟩:=h
 refine(hs K1 hN).mono ?_
 rintro e w2 ⟨rfl,K2,hb,hN2,hk2⟩
 have hsz:=hk.size
 have hs2:=hk2.size
 exact⟨rfl,K2,fun x hx=>(hb x vB).trans (ha x hx),hN2,hk.trans hk2 (fun x hx h=>by rw[<- ha x hx];exact h),fun x hx=>⟨by have:=(hB x hx).1;omega,(hb x (hB x hx).1).trans (hB x hx).2.1,(hk2.2.2.2.2 x (hB x hx).1 (by have:=(hB x hx).2.1;show ¬ K1 x≤6;omega)).trans (hB x hx).2.2⟩⟩
end
def askF (n:S.Node) (op:S.Op) (dst:Int):Let:=⟨2,n.id,dst,op.block,0,0,op.write,b0⟩
theorem nodeAsk_any {c:Cfg} {n:S.Node} {o:S.Out} {p:NPtr} {K:Nat->Nat} {w:cA} (hN:NO c n o p K w) (op:S.Op) (d:Drw) (hl:o.letters.length+(targets c n.id d).length≤1000000000000):bB dA 85 #[bA (M ⟨p.b,0,U⟩),opV op,drwV d,bA (M ⟨p.q,0,U⟩)] w (NOP (.tuple #[]) c n (n.ask c op d o) p K w):=by
 obtain⟨ob,ow,ov⟩:=op
 obtain⟨d0,d1,d2⟩:=d
 have NN:=AS (NS.refl hN)
 have HA:=AS (show n.ask c ⟨ob,ow,ov⟩ ⟨d0,d1,d2⟩ o={ o with letters:=o.letters ++ (targets c n.id ⟨d0,d1,d2⟩).map (askF n ⟨ob,ow,ov⟩)} from rfl)
 generalize n.ask c ⟨ob,ow,ov⟩ ⟨d0,d1,d2⟩ o=R at *
 have B1:=AS (eA (eA (fA w.heap.size w) (O #[V I ob,aA ow,V I ov] 50)) (O #[V I d0,V I d1,V I d2] 74))
 have GB:=AS (lA (nA w (O #[V I ob,aA ow,V I ov] 50)) (O #[V I d0,V I d1,V I d2] 74))
 have DD:=AS (show((w.alloc (O #[V I ob,aA ow,V I ov] 50)).alloc (O #[V I d0,V I d1,V I d2] 74)).cell? ⟨w.heap.size+1,0,U⟩=M (V I d0)/\((w.alloc (O #[V I ob,aA ow,V I ov] 50)).alloc (O #[V I d0,V I d1,V I d2] 74)).cell? ⟨w.heap.size+1,1,U⟩=M (V I d1)/\((w.alloc (O #[V I ob,aA ow,V I ov] 50)).alloc (O #[V I d0,V I d1,V I d2] 74)).cell? ⟨w.heap.size+1,2,U⟩=M (V I d2) from by simp[go_sem])
 have TG:=AS (targets_any c n.id ⟨d0,d1,d2⟩ ((w.alloc (O #[V I ob,aA ow,V I ov] 50)).alloc (O #[V I d0,V I d1,V I d2] 74)).drew)
 have h1:=AS (lA (lA hN.1.1 (O #[V I ob,aA ow,V I ov] 50)) (O #[V I d0,V I d1,V I d2] 74))
 have CE:=AS (show ∀ (W':cA),W'.heap[p.b]?=M (O (nodeC c n p) 133 (0,0))->W'.cell? ⟨p.b,9,U⟩=M (V I n.id) from fun W' h=>(cw h 9))
 have CF:=AS (show ∀ (W':cA),W'.heap[p.b]?=M (O (nodeC c n p) 133 (0,0))->W'.cell? ⟨p.b,0,U⟩=M (V I c.nodes)/\W'.cell? ⟨p.b,1,U⟩=M (V I c.blocks)/\W'.cell? ⟨p.b,2,U⟩=M (V I c.tokens)/\W'.cell? ⟨p.b,3,U⟩=M (V I c.sets)/\W'.cell? ⟨p.b,4,U⟩=M (V I c.ways)/\W'.cell? ⟨p.b,5,U⟩=M (V I c.cap)/\W'.cell? ⟨p.b,6,U⟩=M (V I c.wait)/\W'.cell? ⟨p.b,7,U⟩=M (V I c.tries)/\W'.cell? ⟨p.b,8,U⟩=M (V I c.policy) from fun W' h=>⟨cw h 0,cw h 1,cw h 2,cw h 3,cw h 4,cw h 5,cw h 6,cw h 7,cw h 8⟩)
 show bB dA 85 #[bA (M ⟨p.b,0,U⟩),.agg #[V I ob,aA ow,V I ov],.agg #[V I d0,V I d1,V I d2],bA (M ⟨p.q,0,U⟩)] w _
 simp only[cfgV,drwV] at TG
 generalize targets c n.id ⟨d0,d1,d2⟩=xs at *
 have HL:=AS hl
 clear hN hl
 generalize hpb:p.b=pb at *
 go_enter Tryz.func85,Tryz.ntmps85
 go_upto_region 1 with fail
 generalize (w.alloc (O #[V I ob,aA ow,V I ov] 50)).alloc (O #[V I d0,V I d1,V I d2] 74)=W at B1 GB TG h1 DD ⊢
 generalize hg:w.heap.size=g at *
 have e9:=CE.out _ h1.out
 obtain⟨f0,f1,f2,f3,f4,f5,f6,f7,f8⟩:=CF.out _ h1.out
 have d0_:W.cell? ⟨g+1,0,U⟩=M (V I d0):=DD.out.1
 have d1_:W.cell? ⟨g+1,1,U⟩=M (V I d1):=DD.out.2.1
 have d2_:W.cell? ⟨g+1,2,U⟩=M (V I d2):=DD.out.2.2
 go_cut [3,5,19,20,21] (fun v3 v5 v19 v20 v21 wx=>v3=bA (M ⟨p.q,0,U⟩)/\v5=bA (M ⟨g,0,U⟩)/\(∃ A cp,v19=J A xs.length cp)/\v20=V I xs.length/\v21=V I 0/\OwnE intE v19 xs wx/\(∀ x∈foot v19,W.heap.size≤x)/\Below W.heap.size W wx)
 case first =>
  go_region_with (go_at_call 113;refine TG.out.mono ?_;rintro e w3 ⟨v,rfl,hO,hf,hb⟩;obtain⟨A,cp,rfl,-⟩:=hO.row;have S3:=AS (qA hO (qA hf (show Below W.heap.size W w3 from⟨hb.os,hb.tape,hb.output,hb.size,hb.block⟩)));clear hO hf hb)
  all_goals
   go_wp2_with fail
   go_meet
   exact⟨rfl,rfl,⟨_,_,rfl⟩,rfl,rfl,S3.out.1,S3.out.2.1,S3.out.2.2⟩
 case rest =>
  obtain⟨rfl,rfl,⟨A,cp,rfl⟩,rfl,rfl,hO,hf,hb⟩:=hcut
  have hgW:g < W.heap.size:=eB GB.out
  have hsz:=hb.size
  have hfl:=hO.lt
  have NW:=AS (NN.out.hold (w0:=wc) (B:=g :: foot (J A xs.length cp)) (hg ▸ B1.out.trans (hb.mono (by have:=B1.out.size;omega))) (by
   intro x hx
   rcases List.mem_cons.mp hx with rfl | hx
   ·rw[hg];omega
   ·have:=hf x hx;have:=hfl x hx;have:=B1.out.size;omega))
  have GC:=AS (kA GB.out hb)
  have OC:=AS hO
  have LN:=AS (show xs.length≤1000000000000 from by have:=HL.out;omega)
  clear hO hf hb hgW hsz hfl B1 GB TG h1 DD NN CF e9 f0 f1 f2 f3 f4 f5 f6 f7 f8 d0_ d1_ d2_
  go_wp2_with fail
  go_loopw [9,21] (fun v9 v21 wr=>∃ (i:Nat),v21=V I i/\i≤xs.length/\Aside0 (NH c n { o with letters:=o.letters ++ (xs.take i).map (askF n ⟨ob,ow,ov⟩)} p K w (g :: foot (J A xs.length cp)) wc wr)) (fun _ v21 _=>xs.length+1 - (intOf v21).toNat)
  case atStart=>exact⟨0,rfl,vB,⟨by simpa using NW.out⟩⟩
  case round =>
   obtain⟨i,rfl,hi,R⟩:=hrel
   by_cases c1:i < xs.length
   ·have q1:(i:Int) < (xs.length:Int):=vB
    have q0:(0:Int)≤(i:Int):=vB
    have OR:=AS (OC.out.at_ (fun x hx=>R.out.at_ x (kB _ hx)))
    have GR:=AS ((R.out.at_ g (wA)).trans GC.out)
    obtain⟨g',cap,hsl,hc63,hcap,hlt',-⟩:=own_some OR.out c1
    injection hsl with hsA _ hsc
    subst hsA hsc
    have e0:=int_cells OR.out c1
    generalize hx:xs.getD i 0=xi at e0
    have HX:=AS hx
    have e9:wr.cell? ⟨pb,9,U⟩=M (V I n.id):=by obtain⟨K1,-,h,-⟩:=R.out;have h11:=h.1.1;rw[hpb] at h11;exact CE.out _ h11
    have b0_:=cw GR.out 0 (v:=V I ob)
    have b1_:=cw GR.out 1 (v:=aA ow)
    have SN:=AS ((R.out.below (iA (fA _ wr))).call (fun K1 h=>h.send (by have:=HL.out;simp;omega) ⟨2,n.id,xi,ob,0,0,ow,b0⟩))
    simp only[letV,b0] at SN
    clear hx hc63 hcap hlt'
    have hi12:(i:Int)≤1000000000000:=by have:=LN.out;omega
    have KEEP:=AS (show ∀ (o':S.Out) x,NH c n o' p K w (g :: foot (J (M ⟨g',0,U⟩) xs.length cp)) wc x->(x.cell? ⟨pb,9,U⟩=M (V I n.id)/\x.cell? ⟨g,0,U⟩=M (V I ob)/\x.cell? ⟨g,1,U⟩=M (aA ow)) from fun o' x hx=>by
     have GX:=(hx.at_ g (wA)).trans GC.out
     refine⟨?_,cw GX 0,cw GX 1⟩
     obtain⟨K1,-,h,-⟩:=hx;have h11:=h.1.1;rw[hpb] at h11;exact CE.out _ h11)
    go_upto_region 4 with fail
    go_region_held3 (fun x=>x.cell? ⟨pb,9,U⟩=M (V I n.id)/\x.cell? ⟨g,0,U⟩=M (V I ob)/\x.cell? ⟨g,1,U⟩=M (aA ow)) (first | exact KEEP.out _ _ S3.out | exact KEEP.out _ _ R.out | exact KEEP.out _ _ (R.out.below (iA (fA _ _)))) ((first | (go_at_call 97;refine SN.out.mono ?_;rintro e w3 ⟨rfl,h3⟩;have S3:=AS h3;clear h3)))
    all_goals
     go_wp2
     go_roundw
     case rel =>
      refine⟨i+1,by go_num,vB,⟨?_⟩⟩
      have h3:=S3.out
      rw[List.take_add_one,dB c1,List.map_append,<- List.append_assoc]
      have hxi:xs[i]=xi:=by rw[<- HX.out,cB,dB c1];rfl
      simp only[Option.toList_some,List.map_cons,List.map_nil,hxi]
      exact h3
     case measure=>simp[intOf];omega
   ·have hin:i=xs.length:=vB
    subst hin
    go_wp2
    go_end0
    rw[HA.out]
    exact NOP.ns rfl (by have:=R.out.ns;rwa [List.take_length] at this)
theorem Node.tokens_eq (c:Cfg) (n:S.Node) (l:Let) (o:S.Out):n.tokens c l o=if (n.other l.block).isSome=true then (n,o.send (tokensL n.id (Table.actOf n.know l.block).node l.block l.bun)) else ({ n with lines:=(n.lines.absorb c l.block l.bun n.cpu.pinned).1 }:S.Node).settle c (match (n.lines.absorb c l.block l.bun n.cpu.pinned).2 with | some g=>o.send (tokensL n.id c.nodes g.block g.bun) | none=>o):=by
 unfold Node.tokens
 cases h:n.other l.block with
 | none=>exact(if_neg zB).symm
 | some tt =>
  have:=other_some_ (n:=n) (b:=l.block) (by rw[h];rfl)
  rw[h] at this
  injection this with this
  show(n,o.send (tokensL n.id tt l.block l.bun))=_
  rw[if_pos (by rfl),<- this]
theorem KS.set1 {w W:cA} {g:Nat} (h:KS (fun x=>x=g) w W) (i:Nat) (u:Value):KS (fun x=>x=g) w (W.setCell ⟨g,i,U⟩ u):=KS.set h (.inl rfl) i u
def NX (c:Cfg) (n:S.Node) (o:S.Out) (p:NPtr) (K:Nat->Nat) (w:cA) (bx:List (Nat×Obj)) (w':cA):Prop:=∃ K',(∀ x,x < w.heap.size->K' x=K x)/\NO c n o p K' w'/\KS (fun x=>K x≤6) w w'/\(∀ q∈bx,K' q.1=7/\w.heap.size≤q.1/\w'.heap[q.1]?=M q.2)/\(bx.map (·.1)).Nodup
section
variable {c:Cfg} {n n':S.Node} {o o':S.Out} {p:NPtr} {K:Nat->Nat} {w w1 w2:cA} {bx:List (Nat×Obj)}
theorem NX.ns (h:NX c n o p K w bx w1):NS c n o p K w w1:=by obtain⟨K1,h1,h2,h3,-⟩:=h;exact⟨K1,h1,h2,h3⟩
theorem NX.at_ (h:NX c n o p K w bx w1) {g:Nat} {ob:Obj} (hq:(g,ob)∈bx):w1.heap[g]?=M ob:=by obtain⟨K1,-,-,-,h4,-⟩:=h;exact(h4 _ hq).2.2
theorem NX.node (h:NX c n o p K w bx w1):w1.heap[p.b]?=M (O (nodeC c n p) 133 (0,0)):=by obtain⟨K1,-,h,-⟩:=h;exact h.1.1
theorem NX.have_ {P:Prop} (h:NX c n o p K w bx w1) (hs:∀ K1,NO c n o p K1 w1->P):P:=by obtain⟨K1,-,h,-⟩:=h;exact hs K1 h
theorem NS.nx (h:NS c n o p K w w1):NX c n o p K w [] w1:=by obtain⟨K1,h1,h2,h3⟩:=h;exact⟨K1,h1,h2,h3,(fun q hq=>by cases hq),List.nodup_nil⟩
theorem NX.new (h:NX c n o p K w bx w1) (hb:Below w1.heap.size w1 w2) {g:Nat} {ob:Obj} (hg:w1.heap.size≤g) (ho:w2.heap[g]?=M ob):NX c n o p K w ((g,ob) :: bx) w2:=by
 obtain⟨K1,ha,hN,hk,hB,hD⟩:=h
 have hsz:=hk.size
 refine⟨rec_ K1 w1 7,fun x hx=>(jB vB).trans (ha x hx),hN.below hb 7,hk.trans (pB (fun _=>False) hb) (fun x _ h=>h.elim),fun q hq=>?_,List.nodup_cons.2 ⟨fun hm=>?_,hD⟩⟩
 ·rcases List.mem_cons.1 hq with rfl | hq
  ·exact⟨rec_new hg,by show _≤g;omega,ho⟩
  ·have hlt:=eB (hB q hq).2.2
   exact⟨(jB hlt).trans (hB q hq).1,(hB q hq).2.1,(hb.block _ hlt).trans (hB q hq).2.2⟩
 ·obtain⟨q,hq,e⟩:=List.mem_map.1 hm
  have hlt:=eB (hB q hq).2.2
  have e':q.1=g:=e
  omega
theorem NX.tail {q:Nat×Obj} (h:NX c n o p K w (q :: bx) w1):NX c n o p K w bx w1:=by
 obtain⟨K1,ha,hN,hk,hB,hD⟩:=h
 exact⟨K1,ha,hN,hk,(fun x hx=>hB x (kB _ hx)),(List.nodup_cons.1 hD).2⟩
theorem NX.below (h:NX c n o p K w bx w1) (hb:Below w1.heap.size w1 w2):NX c n o p K w bx w2:=by
 obtain⟨K1,ha,hN,hk,hB,hD⟩:=h
 have hsz:=hk.size
 refine⟨rec_ K1 w1 7,fun x hx=>(jB vB).trans (ha x hx),hN.below hb 7,hk.trans (pB (fun _=>False) hb) (fun x _ h=>h.elim),fun q hq=>?_,hD⟩
 have hlt:=eB (hB q hq).2.2
 exact⟨(jB hlt).trans (hB q hq).1,(hB q hq).2.1,(hb.block _ hlt).trans (hB q hq).2.2⟩
theorem NX.box (h:NX c n o p K w bx w1) (ob:Obj):NX c n o p K w ((w1.heap.size,ob) :: bx) (w1.alloc ob):=h.new (eA (fA _ _) ob) (pA _) (nA w1 ob)
theorem NX.drew (h:NX c n o p K w bx w1):NX c n o p K w bx w1.drew:=h.below (iA (fA _ _))
theorem NX.via (h:NX c n o p K w bx w1) (hs:∀ K1,NO c n o p K1 w1->NS c n' o' p K1 w1 w2):NX c n' o' p K w bx w2:=by
 obtain⟨K1,ha,hN,hk,hB,hD⟩:=h
 obtain⟨K2,hb,hN2,hk2⟩:=hs K1 hN
 have hsz:=hk.size
 exact⟨K2,fun x hx=>(hb x vB).trans (ha x hx),hN2,hk.trans hk2 (fun x hx h=>by rw[<- ha x hx];exact h),fun q hq=>⟨(hb _ (eB (hB q hq).2.2)).trans (hB q hq).1,(hB q hq).2.1,hk2.at_ (hB q hq).2.2 (by have:=(hB q hq).1;show ¬ K1 q.1≤6;omega)⟩,hD⟩
theorem NX.call {f:Nat} {args:Array Value} {v:Value} (h:NX c n o p K w bx w1) (hs:∀ K1,NO c n o p K1 w1->bB dA f args w1 (NOP v c n' o' p K1 w1)):bB dA f args w1 (fun e w'=>e=.returned v/\NX c n' o' p K w bx w'):=by
 have h0:=h
 obtain⟨K1,ha,hN,hk,hB,hD⟩:=h
 refine(hs K1 hN).mono ?_
 rintro e w2 ⟨rfl,K2,hb,hN2,hk2⟩
 have hsz:=hk.size
 exact⟨rfl,K2,fun x hx=>(hb x vB).trans (ha x hx),hN2,hk.trans hk2 (fun x hx h=>by rw[<- ha x hx];exact h),fun q hq=>⟨(hb _ (eB (hB q hq).2.2)).trans (hB q hq).1,(hB q hq).2.1,hk2.at_ (hB q hq).2.2 (by have:=(hB q hq).1;show ¬ K1 q.1≤6;omega)⟩,hD⟩
theorem NX.put {g:Nat} {ob ob':Obj} (h:NX c n o p K w ((g,ob) :: bx) w1) (hk2:KS (fun x=>x=g) w1 w2) (ho:w2.heap[g]?=M ob'):NX c n o p K w ((g,ob') :: bx) w2:=by
 obtain⟨K1,ha,hN,hk,hB,hD⟩:=h
 have hd:∀ q∈bx,q.1≠g:=fun q hq e=>(List.nodup_cons.1 hD).1 (List.mem_map.2 ⟨q,hq,e⟩)
 have hsz:=hk.size
 have hg7:=(hB _ (wA)).1
 simp only at hg7
 have hgw:=(hB _ (wA)).2.1
 simp only at hgw
 refine⟨rec_ K1 w1 7,fun x hx=>(jB vB).trans (ha x hx),?_,⟨hk2.1.trans hk.1,hk2.2.1.trans hk.2.1,hk2.2.2.1.trans hk.2.2.1,lB hsz hk2.size,fun i hi hF=>(hk2.2.2.2.2 i vB (fun e=>by have e':i=g:=e;omega)).trans (hk.2.2.2.2 i hi hF)⟩,fun q hq=>?_,hD⟩
 ·refine⟨hN.1.keep hk2 (fun x hx h5=>⟨jB hx,fun e=>?_⟩),hN.2.keep hk2 (fun x hx h6=>⟨(jB hx).trans h6,fun e=>?_⟩)⟩
  ·have e':x=g:=e
   rw[e'] at h5;omega
  ·have e':x=g:=e
   rw[e'] at h6;omega
 ·rcases List.mem_cons.1 hq with rfl | hq
  ·exact⟨by simp only;rw[jB (eB (hB _ (wA)).2.2)];exact hg7,hgw,ho⟩
  ·have hlt:=eB (hB q (kB _ hq)).2.2
   exact⟨(jB hlt).trans (hB q (kB _ hq)).1,(hB q (kB _ hq)).2.1,hk2.at_ (hB q (kB _ hq)).2.2 (hd q hq)⟩
theorem NX.pass {g:Nat} {ob:Obj} (h:NX c n o p K w ((g,ob) :: bx) w1) (hk2:KS (fun x=>x=g) w1 w2):NX c n o p K w bx w2:=by
 have hlt:=eB (h.at_ (wA))
 have hlt2:=hk2.size
 obtain⟨ob',ho⟩:∃ ob',w2.heap[g]?=M ob':=⟨w2.heap[g],Array.getElem?_eq_getElem vB⟩
 exact(h.put hk2 ho).tail
end
theorem nodeTokens_any {c:Cfg} {n:S.Node} {o:S.Out} {p:NPtr} {K:Nat->Nat} {w:cA} (hN:NO c n o p K w) (hl:o.letters.length≤1000000) (hd:o.done.length≤1000000) (l:Let) (d:Drw):bB dA 92 #[bA (M ⟨p.b,0,U⟩),letV l,drwV d,bA (M ⟨p.q,0,U⟩)] w (NOP (.tuple #[]) c (n.tokens c l o).1 (n.tokens c l o).2 p K w):=by
 obtain⟨k,f,t,b,qq,wh,wr,⟨c0,oo,hh,dd⟩⟩:=l
 obtain⟨d0,d1,d2⟩:=d
 have HL:=AS (qA hl hd)
 have CE:=AS (show ∀ (n':S.Node) (W':cA),n'.id=n.id->W'.heap[p.b]?=M (O (nodeC c n' p) 133 (0,0))->(W'.cell? ⟨p.b,0,U⟩=M (V I c.nodes)/\W'.cell? ⟨p.b,1,U⟩=M (V I c.blocks)/\W'.cell? ⟨p.b,2,U⟩=M (V I c.tokens)/\W'.cell? ⟨p.b,3,U⟩=M (V I c.sets)/\W'.cell? ⟨p.b,4,U⟩=M (V I c.ways)/\W'.cell? ⟨p.b,5,U⟩=M (V I c.cap)/\W'.cell? ⟨p.b,6,U⟩=M (V I c.wait)/\W'.cell? ⟨p.b,7,U⟩=M (V I c.tries)/\W'.cell? ⟨p.b,8,U⟩=M (V I c.policy)/\W'.cell? ⟨p.b,9,U⟩=M (V I n.id)/\W'.cell? ⟨p.b,10,U⟩=M (bA (M ⟨p.bc,0,U⟩))/\W'.cell? ⟨p.b,11,U⟩=M (bA (M ⟨p.bt,0,U⟩))/\W'.cell? ⟨p.b,12,U⟩=M (bA (M ⟨p.bp,0,U⟩))/\W'.cell? ⟨p.b,13,U⟩=M (.map (M p.ba))/\W'.cell? ⟨p.b,14,U⟩=M (.map (M p.bo))) from fun n' W' hi h=>⟨cw h 0,cw h 1,cw h 2,cw h 3,cw h 4,cw h 5,cw h 6,cw h 7,cw h 8,by rw[<- hi];exact(cw h 9),cw h 10,cw h 11,cw h 12,cw h 13,cw h 14⟩)
 have N1:=AS (((NS.refl hN).nx.box (O #[V I k,V I f,V I t,V I b,V I qq,V I wh,aA wr,V I c0,aA oo,aA hh,V I dd] 47)).box (O #[V I d0,V I d1,V I d2] 74))
 rw[show(w.alloc (O #[V I k,V I f,V I t,V I b,V I qq,V I wh,aA wr,V I c0,aA oo,aA hh,V I dd] 47)).heap.size=w.heap.size+1 by simp] at N1
 show bB dA 92 #[bA (M ⟨p.b,0,U⟩),.agg #[V I k,V I f,V I t,V I b,V I qq,V I wh,aA wr,V I c0,aA oo,aA hh,V I dd],.agg #[V I d0,V I d1,V I d2],bA (M ⟨p.q,0,U⟩)] w (NOP (.tuple #[]) c (n.tokens c ⟨k,f,t,b,qq,wh,wr,⟨c0,oo,hh,dd⟩⟩ o).1 (n.tokens c ⟨k,f,t,b,qq,wh,wr,⟨c0,oo,hh,dd⟩⟩ o).2 p K w)
 have HR:=AS (Node.tokens_eq c n ⟨k,f,t,b,qq,wh,wr,⟨c0,oo,hh,dd⟩⟩ o)
 simp only at HR
 generalize n.tokens c ⟨k,f,t,b,qq,wh,wr,⟨c0,oo,hh,dd⟩⟩ o=R at *
 clear hN hl hd
 generalize hpb:p.b=pb at *
 go_enter Tryz.func92,Tryz.ntmps92
 go_upto_region 1 with fail
 generalize ((w.alloc (O #[V I k,V I f,V I t,V I b,V I qq,V I wh,aA wr,V I c0,aA oo,aA hh,V I dd] 47)).alloc (O #[V I d0,V I d1,V I d2] 74))=W at N1 ⊢
 generalize hg:w.heap.size=g at *
 have K0:=AS (show ∀ (n':S.Node) (o':S.Out) (bx:List (Nat×Obj)) x,NX c n' o' p K w bx x->n'.id=n.id->(g,(O #[V I k,V I f,V I t,V I b,V I qq,V I wh,aA wr,V I c0,aA oo,aA hh,V I dd] 47:Obj))∈bx->(x.cell? ⟨g,3,U⟩=M (V I b)) from fun n' o' bx x hx hid m0=>by
  have hb0:=hx.at_ m0
  exact(cw hb0 3))
 have hS_:=K0.out _ _ _ _ N1.out rfl zB
 have e0_:=hS_
 clear hS_
 go_wp2_with fail
 have OT:=AS (show bB dA 129 #[bA (M ⟨pb,0,U⟩),V I b] W (RV (.tuple #[V I (Table.actOf n.know b).node,aA (n.other b).isSome]) W) from by obtain⟨K1,-,h,-⟩:=N1.out;have:=nodeOther_any h.1 b;rw[hpb] at this;exact this)
 generalize (n.other b).isSome=ok at *
 generalize (Table.actOf n.know b).node=tt at *
 refine OT.out.mono ?_
 rintro e w2 ⟨rfl,hb2⟩
 have N2:=AS (N1.out.below hb2)
 clear hb2 OT N1 e0_ K0
 cases ok
 case true =>
  have hr:=HR.out.trans (if_pos rfl)
  clear HR
  have KEEP:=AS (show ∀ (n':S.Node) (o':S.Out) (bx:List (Nat×Obj)) x,NX c n' o' p K w bx x->n'.id=n.id->(g,(O #[V I k,V I f,V I t,V I b,V I qq,V I wh,aA wr,V I c0,aA oo,aA hh,V I dd] 47:Obj))∈bx->(x.cell? ⟨pb,9,U⟩=M (V I n.id)/\x.cell? ⟨g,3,U⟩=M (V I b)/\x.cell? ⟨g,7,U⟩=M (V I c0)/\x.cell? ⟨g,8,U⟩=M (aA oo)/\x.cell? ⟨g,9,U⟩=M (aA hh)/\x.cell? ⟨g,10,U⟩=M (V I dd)) from fun n' o' bx x hx hid m0=>by
   have hce:=(show _ from by have h11:=hx.node;rw[hpb] at h11;exact CE.out n' _ hid h11)
   have hb0:=hx.at_ m0
   exact⟨hce.2.2.2.2.2.2.2.2.2.1,cw hb0 3,cw hb0 7,cw hb0 8,cw hb0 9,cw hb0 10⟩)
  go_upto_region 3 with fail
  have hS_:=KEEP.out _ _ _ _ N2.out rfl zB
  have e0_:=hS_.1
  have e1_:=hS_.2.1
  have e2_:=hS_.2.2.1
  have e3_:=hS_.2.2.2.1
  have e4_:=hS_.2.2.2.2.1
  have e5_:=hS_.2.2.2.2.2
  clear hS_
  go_region_held3 (fun x=>x.cell? ⟨pb,9,U⟩=M (V I n.id)/\x.cell? ⟨g,3,U⟩=M (V I b)/\x.cell? ⟨g,7,U⟩=M (V I c0)/\x.cell? ⟨g,8,U⟩=M (aA oo)/\x.cell? ⟨g,9,U⟩=M (aA hh)/\x.cell? ⟨g,10,U⟩=M (V I dd)) (((try dsimp only);apply KEEP.out;(focus (with_reducible first | apply N4.out | apply N3.out | apply N2.out | apply N2.out.drew));exact rfl;(all_goals simp))) ((first | (go_at_call 130;refine(tokens_any _ _ _ _ _ _ _ _).mono ?_;rintro e w3 ⟨rfl,hb3⟩;have N3:=AS (N2.out.below (show Below w2.heap.size w2 w3 from(iA (fA _ _)).trans (hb3.mono (pA _))));clear hb3;simp only[letV,tokensL]) | (go_at_call 97;refine(N3.out.call (fun K1 h=>h.send (by have:=HL.out.1;omega) ⟨1,n.id,tt,b,0,0,false,⟨c0,oo,hh,dd⟩⟩)).mono ?_;rintro e w4 ⟨rfl,h4⟩;have N4:=AS h4;clear h4)))
  go_wp2
  go_end0
  rw[hr]
  exact NOP.ns rfl N4.out.ns
 case false =>
  have hr:=HR.out.trans (if_neg zB)
  have HR2:=AS hr
  clear HR hr
  have KEEP:=AS (show ∀ (n':S.Node) (o':S.Out) (bx:List (Nat×Obj)) x,NX c n' o' p K w bx x->n'.id=n.id->(g,(O #[V I k,V I f,V I t,V I b,V I qq,V I wh,aA wr,V I c0,aA oo,aA hh,V I dd] 47:Obj))∈bx->(x.cell? ⟨pb,10,U⟩=M (bA (M ⟨p.bc,0,U⟩))/\x.cell? ⟨pb,12,U⟩=M (bA (M ⟨p.bp,0,U⟩))/\x.cell? ⟨g,3,U⟩=M (V I b)/\x.cell? ⟨g,7,U⟩=M (V I c0)/\x.cell? ⟨g,8,U⟩=M (aA oo)/\x.cell? ⟨g,9,U⟩=M (aA hh)/\x.cell? ⟨g,10,U⟩=M (V I dd)) from fun n' o' bx x hx hid m0=>by
   have hce:=(show _ from by have h11:=hx.node;rw[hpb] at h11;exact CE.out n' _ hid h11)
   have hb0:=hx.at_ m0
   exact⟨hce.2.2.2.2.2.2.2.2.2.2.1,hce.2.2.2.2.2.2.2.2.2.2.2.2.1,cw hb0 3,cw hb0 7,cw hb0 8,cw hb0 9,cw hb0 10⟩)
  go_upto_region 4 with fail
  have hS_:=KEEP.out _ _ _ _ N2.out rfl zB
  have e0_:=hS_.1
  have e1_:=hS_.2.1
  have e2_:=hS_.2.2.1
  have e3_:=hS_.2.2.2.1
  have e4_:=hS_.2.2.2.2.1
  have e5_:=hS_.2.2.2.2.2.1
  have e6_:=hS_.2.2.2.2.2.2
  clear hS_
  have PIN:=AS (show ∀ W',Below w2.heap.size w2 W'->bB dA 132 #[bA (M ⟨p.bp,0,U⟩)] W' (RQ (V I n.cpu.pinned) W') from fun W' hb=>(N2.out.below hb).have_ fun K1 h=>pinned_any h.1.2.2.2.2.1)
  have AB:=AS (show ∀ bx W',NX c n o p K w bx W'->_ from fun bx W' h=>h.call (fun K1 h=>h.cacAbsorb b c0 oo hh dd n.cpu.pinned))
  generalize n.cpu.pinned=pin at *
  generalize n.lines.absorb c b ⟨c0,oo,hh,dd⟩ pin=ab at *
  obtain⟨al,ao⟩:=ab
  simp only[absV] at AB
  have HAO:=AS (show ao.getD ⟨0,b0⟩=ao.getD ⟨0,b0⟩ from rfl)
  generalize hgl:ao.getD ⟨0,b0⟩=gl at *
  generalize hgs:ao.isSome=gs at *
  obtain⟨gb,gc,go_,gh,gd⟩:=gl
  simp only[lineV] at AB
  go_cut [10,11] (fun v10 v11 wx=>∃ a,v10=bA (M ⟨a,0,U⟩)/\v11=aA gs/\NX c { n with lines:=al } o p K w [(a,O #[V I gb,V I gc,aA go_,aA gh,V I gd] 61),(g+1,O #[V I d0,V I d1,V I d2] 74),(g,O #[V I k,V I f,V I t,V I b,V I qq,V I wh,aA wr,V I c0,aA oo,aA hh,V I dd] 47)] wx)
  case first =>
   go_region_held3 (fun x=>x.cell? ⟨pb,10,U⟩=M (bA (M ⟨p.bc,0,U⟩))/\x.cell? ⟨pb,12,U⟩=M (bA (M ⟨p.bp,0,U⟩))/\x.cell? ⟨g,3,U⟩=M (V I b)/\x.cell? ⟨g,7,U⟩=M (V I c0)/\x.cell? ⟨g,8,U⟩=M (aA oo)/\x.cell? ⟨g,9,U⟩=M (aA hh)/\x.cell? ⟨g,10,U⟩=M (V I dd)) (((try dsimp only);apply KEEP.out;(focus (first | with_reducible apply N4.out | with_reducible apply N2.out | with_reducible apply N2.out.drew | (refine NX.below N4.out ?_;(repeat (first | with_reducible exact fA _ _ | with_reducible apply eA | with_reducible apply iA | refine oA ?_ (by dsimp only;omega) _));done) | (refine NX.below N2.out ?_;(repeat (first | with_reducible exact fA _ _ | with_reducible apply eA | with_reducible apply iA | refine oA ?_ (by dsimp only;omega) _));done) | (refine NX.pass N4.out ?_;(repeat (with_reducible first | exact qB _ _ | apply sB | apply KS.set1));done)));exact rfl;(all_goals simp))) ((first | (go_at_call 132;refine(PIN.out _ (by repeat (first | with_reducible exact fA _ _ | with_reducible apply eA | with_reducible apply iA | refine oA ?_ (by dsimp only;omega) _))).mono ?_;rintro e w3 ⟨rfl,rfl⟩) | (go_at_call 131;refine(AB.out _ _ N2.out.drew).mono ?_;rintro e w4 ⟨rfl,h4⟩;have N4:=AS h4;clear h4;have Z:=AS (show(w4.alloc (O #[V I 0,V I 0,aA false,aA false,V I 0] 61)).heap[w4.heap.size]?=M (O #[V I 0,V I 0,aA false,aA false,V I 0] 61) from nA w4 _);have z0:(w4.alloc (O #[V I 0,V I 0,aA false,aA false,V I 0] 61)).cell? ⟨w4.heap.size,0,U⟩=M (V I 0):=cw Z.out 0;have zz0:(w4.alloc (O #[V I 0,V I 0,aA false,aA false,V I 0] 61)).frozen? ⟨w4.heap.size,0,U⟩=false:=jA Z.out 0;have z1:(w4.alloc (O #[V I 0,V I 0,aA false,aA false,V I 0] 61)).cell? ⟨w4.heap.size,1,U⟩=M (V I 0):=cw Z.out 1;have zz1:(w4.alloc (O #[V I 0,V I 0,aA false,aA false,V I 0] 61)).frozen? ⟨w4.heap.size,1,U⟩=false:=jA Z.out 1;have z2:(w4.alloc (O #[V I 0,V I 0,aA false,aA false,V I 0] 61)).cell? ⟨w4.heap.size,2,U⟩=M (aA false):=cw Z.out 2;have zz2:(w4.alloc (O #[V I 0,V I 0,aA false,aA false,V I 0] 61)).frozen? ⟨w4.heap.size,2,U⟩=false:=jA Z.out 2;have z3:(w4.alloc (O #[V I 0,V I 0,aA false,aA false,V I 0] 61)).cell? ⟨w4.heap.size,3,U⟩=M (aA false):=cw Z.out 3;have zz3:(w4.alloc (O #[V I 0,V I 0,aA false,aA false,V I 0] 61)).frozen? ⟨w4.heap.size,3,U⟩=false:=jA Z.out 3;have z4:(w4.alloc (O #[V I 0,V I 0,aA false,aA false,V I 0] 61)).cell? ⟨w4.heap.size,4,U⟩=M (V I 0):=cw Z.out 4;have zz4:(w4.alloc (O #[V I 0,V I 0,aA false,aA false,V I 0] 61)).frozen? ⟨w4.heap.size,4,U⟩=false:=jA Z.out 4) | (go_at_call 131;refine(AB.out _ _ (N2.out.drew.box (O #[V I 0,V I 0,aA false,aA false,V I 0] 61))).mono ?_;rintro e w4 ⟨rfl,h4⟩;have N4:=AS (show NX c { n with lines:=al } o p K w [(w2.heap.size,O #[V I 0,V I 0,aA false,aA false,V I 0] 61),(g+1,O #[V I d0,V I d1,V I d2] 74),(g,O #[V I k,V I f,V I t,V I b,V I qq,V I wh,aA wr,V I c0,aA oo,aA hh,V I dd] 47)] w4 from h4);clear h4;have Z:=AS (show w4.heap[w2.heap.size]?=M (O #[V I 0,V I 0,aA false,aA false,V I 0] 61) from N4.out.at_ (wA));have z0:w4.cell? ⟨w2.heap.size,0,U⟩=M (V I 0):=cw Z.out 0;have zz0:=jA Z.out 0;have z1:w4.cell? ⟨w2.heap.size,1,U⟩=M (V I 0):=cw Z.out 1;have zz1:w4.frozen? ⟨w2.heap.size,1,U⟩=false:=jA Z.out 1;have z2:w4.cell? ⟨w2.heap.size,2,U⟩=M (aA false):=cw Z.out 2;have zz2:w4.frozen? ⟨w2.heap.size,2,U⟩=false:=jA Z.out 2;have z3:w4.cell? ⟨w2.heap.size,3,U⟩=M (aA false):=cw Z.out 3;have zz3:w4.frozen? ⟨w2.heap.size,3,U⟩=false:=jA Z.out 3;have z4:w4.cell? ⟨w2.heap.size,4,U⟩=M (V I 0):=cw Z.out 4;have zz4:w4.frozen? ⟨w2.heap.size,4,U⟩=false:=jA Z.out 4)))
   all_goals
    go_wp2_with fail
    go_meet
    refine⟨_,rfl,rfl,?_⟩
    first
     | (with_reducible apply NX.put N4.out;(focus ((repeat (with_reducible first | exact qB _ _ | apply sB | apply KS.set1));done));exact(mA (mA (mA (mA (mA Z.out 0 _) 1 _) 2 _) 3 _) 4 _).trans zB)
     | (with_reducible apply NX.new N4.out;(focus ((repeat (first | with_reducible exact fA _ _ | with_reducible apply eA | with_reducible apply iA | refine oA ?_ (by dsimp only;omega) _));done));(focus (exact pA _));exact(mA (mA (mA (mA (mA Z.out 0 _) 1 _) 2 _) 3 _) 4 _).trans zB)
     | with_reducible apply N4.out.box
  case rest =>
   obtain⟨a,rfl,rfl,hcut⟩:=hcut
   have N5:=AS hcut
   clear e0_ e1_ e2_ e3_ e4_ e5_ e6_
   clear hcut PIN AB KEEP HAO N2
   have hr:=HR2.out
   cases gs
   case false =>
    obtain rfl:ao=U:=by cases ao with | none=>rfl | some x=>simp at hgs
    simp only at hr
    have ST:=AS (N5.out.call (fun K1 h=>nodeSettle_any h (by have:=HL.out.1;omega) (by have:=HL.out.2;omega)))
    rw[hpb] at ST
    go_wp2_with fail
    refine ST.out.mono ?_
    rintro e w7 ⟨rfl,h7⟩
    have N7:=AS h7
    clear h7 ST
    go_wp2
    go_end0
    rw[hr]
    exact NOP.ns rfl N7.out.ns
   case true =>
    obtain rfl:ao=M ⟨gb,gc,go_,gh,gd⟩:=by cases ao with | none=>simp at hgs | some x=>simp at hgl;rw[hgl]
    simp only at hr
    have KEEP:=AS (show ∀ (n':S.Node) (o':S.Out) (bx:List (Nat×Obj)) x,NX c n' o' p K w bx x->n'.id=n.id->(a,(O #[V I gb,V I gc,aA go_,aA gh,V I gd] 61:Obj))∈bx->(x.cell? ⟨pb,0,U⟩=M (V I c.nodes)/\x.cell? ⟨pb,9,U⟩=M (V I n.id)/\x.cell? ⟨a,0,U⟩=M (V I gb)/\x.cell? ⟨a,1,U⟩=M (V I gc)/\x.cell? ⟨a,2,U⟩=M (aA go_)/\x.cell? ⟨a,3,U⟩=M (aA gh)/\x.cell? ⟨a,4,U⟩=M (V I gd)) from fun n' o' bx x hx hid m0=>by
     have hce:=(show _ from by have h11:=hx.node;rw[hpb] at h11;exact CE.out n' _ hid h11)
     have hb0:=hx.at_ m0
     exact⟨hce.1,hce.2.2.2.2.2.2.2.2.2.1,cw hb0 0,cw hb0 1,cw hb0 2,cw hb0 3,cw hb0 4⟩)
    go_upto_region 6 with fail
    have hS_:=KEEP.out _ _ _ _ N5.out rfl zB
    have e0_:=hS_.1
    have e1_:=hS_.2.1
    have e2_:=hS_.2.2.1
    have e3_:=hS_.2.2.2.1
    have e4_:=hS_.2.2.2.2.1
    have e5_:=hS_.2.2.2.2.2.1
    have e6_:=hS_.2.2.2.2.2.2
    clear hS_
    go_region_held3 (fun x=>x.cell? ⟨pb,0,U⟩=M (V I c.nodes)/\x.cell? ⟨pb,9,U⟩=M (V I n.id)/\x.cell? ⟨a,0,U⟩=M (V I gb)/\x.cell? ⟨a,1,U⟩=M (V I gc)/\x.cell? ⟨a,2,U⟩=M (aA go_)/\x.cell? ⟨a,3,U⟩=M (aA gh)/\x.cell? ⟨a,4,U⟩=M (V I gd)) (((try dsimp only);apply KEEP.out;(focus (with_reducible first | apply N7.out | apply N6.out | apply N5.out | apply N5.out.drew));exact rfl;(all_goals simp))) ((first | (go_at_call 130;refine(tokens_any _ _ _ _ _ _ _ _).mono ?_;rintro e w6 ⟨rfl,hb6⟩;have N6:=AS (N5.out.below (show Below wc.heap.size wc w6 from(iA (fA _ _)).trans (hb6.mono (pA _))));clear hb6;simp only[letV,tokensL]) | (go_at_call 97;refine(N6.out.call (fun K1 h=>h.send (by have:=HL.out.1;omega) ⟨1,n.id,c.nodes,gb,0,0,false,⟨gc,go_,gh,gd⟩⟩)).mono ?_;rintro e w7 ⟨rfl,h7⟩;have N7:=AS h7;clear h7)))
    have ST:=AS (N7.out.call (fun K1 h=>nodeSettle_any h (by have:=HL.out.1;simp[Out.send];omega) (by have:=HL.out.2;simp[Out.send];omega)))
    rw[hpb] at ST
    go_wp2_with fail
    refine ST.out.mono ?_
    rintro e w8 ⟨rfl,h8⟩
    have N8:=AS h8
    clear h8 ST
    go_wp2
    go_end0
    rw[hr]
    exact NOP.ns rfl N8.out.ns
def NRes (v:Value->Value->Value) (c:Cfg) (n:S.Node) (o:S.Out) (p:NPtr) (K:Nat->Nat) (w:cA) (e:Ending) (w':cA):Prop :=
 ∃ vl vd K',e=.returned (v vl vd)/\(∀ x,x < w.heap.size->K' x=K x)/\NodeK c n p K' w'/\OwnE letE vl o.letters w'/\OwnE doneE vd o.done w'/\(∀ x∈foot vl,w.heap.size≤x/\K' x=6)/\(∀ x∈foot vd,w.heap.size≤x/\K' x=6)/\KS (fun x=>K x≤5) w w'
theorem NodeK.start {c:Cfg} {n:S.Node} {p:NPtr} {K:Nat->Nat} {w W:cA} (h:NodeK c n p K w) (hb:Below w.heap.size w W) {q:Nat} (hq:w.heap.size≤q) (ho:W.heap[q]?=M (O #[J U 0 0,J U 0 0] 138 (0,0))) (bx:List (Nat×Obj)) (hbx:∀ x∈bx,w.heap.size≤x.1/\x.1≠q/\W.heap[x.1]?=M x.2) (hd:(bx.map (·.1)).Nodup):NX c n out0 { p with q:=q } K w bx W:=by
 have hs:=hb.size
 refine⟨fun x=>if x=q then 6 else if x < w.heap.size then K x else 7,fun x hx=>?_,⟨?_,?_⟩,pB _ hb,fun x hx=>⟨?_,(hbx x hx).1,(hbx x hx).2.2⟩,hd⟩
 ·show(if x=q then 6 else if x < w.heap.size then K x else 7)=K x
  rw[if_neg vB,if_pos hx]
 ·exact NodeK.keep (G:=fun _=>False) (show NodeK c n { p with q:=q } K w from h) (pB _ hb) (fun x hx _=>⟨by rw[if_neg vB,if_pos hx],id⟩)
 ·exact⟨_,_,ho,OwnE.nil _,OwnE.nil _,by simp[foot_nil],by simp[foot_nil],by simp[foot_nil],if_pos rfl,by simp[foot_nil],by simp[foot_nil]⟩
 ·show(if x.1=q then 6 else if x.1 < w.heap.size then K x.1 else 7)=7
  rw[if_neg (hbx x hx).2.1,if_neg (by have:=(hbx x hx).1;omega)]
section
variable {c:Cfg} {n:S.Node} {o:S.Out} {p:NPtr} {K:Nat->Nat} {w w1 w2:cA} {bx:List (Nat×Obj)}
theorem NX.pick (h:NX c n o p K w bx w1) {g:Nat} {ob:Obj} (hm:(g,ob)∈bx):NX c n o p K w [(g,ob)] w1:=by
 obtain⟨K1,ha,hN,hk,hB,hD⟩:=h
 exact⟨K1,ha,hN,hk,fun q hq=>by simp only[tA] at hq;subst hq;exact hB _ hm,zB⟩
theorem NX.outs (h:NX c n o p K w bx w1):∃ A1 n1 c1 A2 n2 c2,w1.heap[p.q]?=M (O #[J A1 n1 c1,J A2 n2 c2] 138 (0,0)):=by
 obtain⟨K1,ha,hN,hk,hB,hD⟩:=h
 obtain⟨vl,vd,h1,h2,h3,-⟩:=hN.2
 obtain⟨A1,c1,rfl,-⟩:=h2.row
 obtain⟨A2,c2,rfl,-⟩:=h3.row
 exact⟨_,_,_,_,_,_,h1⟩
theorem NX.fin {vl vd:Value} {v:Value->Value->Value} {r:Nat} {ob:Obj} (h:NX c n o p K w bx w1) (hm:(r,ob)∈bx) (h6:∀ x,x < w.heap.size->K x≠6) (hq:w1.heap[p.q]?=M (O #[vl,vd] 138 (0,0))) (hk2:KS (fun x=>x=r) w1 w2):NRes v c n o p K w (.returned (v vl vd)) w2:=by
 have h2:=(h.pick hm).pass hk2
 have hrq:p.q≠r:=by
  obtain⟨K1,ha,hN,hk,hB,hD⟩:=h
  have h7:=(hB _ hm).1
  obtain⟨-,-,-,-,-,-,-,-,h6',-⟩:=hN.2
  intro e
  rw[e] at h6'
  simp only at h7
  omega
 have hq2:=hk2.at_ hq hrq
 obtain⟨K1,ha,hN,hk,-⟩:=h2
 obtain⟨vl',vd',g1,g2,g3,g4,g5,g6,g7,g8,g9⟩:=hN.2
 rw[hq2] at g1
 have g1':vl=vl'/\vd=vd':=by simpa using g1
 obtain⟨rfl,rfl⟩:=g1'
 have hnew:∀ x,K1 x=6->w.heap.size≤x:=fun x hx=>by
  by_cases q:x < w.heap.size
  ·exact absurd ((ha x q).symm.trans hx) (h6 x q)
  ·omega
 exact⟨_,_,K1,rfl,ha,hN.1,g2,g3,fun x hx=>⟨hnew x (g8 x hx),g8 x hx⟩,fun x hx=>⟨hnew x (g9 x hx),g9 x hx⟩,hk.mono (fun x hx h=>by have:=h6 x hx;omega)⟩
end
theorem targets_len (c:Cfg) (s:Int) (d:Drw):(targets c s d).length≤65:=by
 unfold targets
 split
 ·exact Nat.zero_le _
 ·refine lB (List.length_filter_le _ _) ?_
  rw[List.length_map,List.length_range];omega
theorem nodeTick_aux {c:Cfg} {n:S.Node} {p:NPtr} {K:Nat->Nat} {w:cA} (hN:NodeK c n p K w) (hpq:p.q=w.heap.size+2) (h6:∀ x,x < w.heap.size->K x≠6) (hw0:0≤c.wait) (hw1:c.wait≤64) (d:Drw):bB dA 64 #[bA (M ⟨p.b,0,U⟩),drwV d] w (NRes (fun a b=>.agg #[a,b]) c (n.tick c d).1 (n.tick c d).2 p K w):=by
 obtain⟨d0,d1,d2⟩:=d
 have H6:=AS h6
 have HW:=AS (qA hw0 hw1)
 have e1:(w.alloc (O #[V I d0,V I d1,V I d2] 74)).heap.size=w.heap.size+1:=by simp
 have e2:((w.alloc (O #[V I d0,V I d1,V I d2] 74)).alloc (O #[J U 0 0,J U 0 0] 138)).heap.size=w.heap.size+2:=by simp
 have N1:=AS (hN.start (W:=(((w.alloc (O #[V I d0,V I d1,V I d2] 74)).alloc (O #[J U 0 0,J U 0 0] 138)).alloc (O #[J U 0 0,J U 0 0] 138))) (q:=w.heap.size+2) (eA (eA (eA (fA _ _) _) _) _) vB (by rw[<- e2];exact nA _ _) [(w.heap.size+1,(O #[J U 0 0,J U 0 0] 138:Obj)),(w.heap.size,(O #[V I d0,V I d1,V I d2] 74:Obj))] (by
  intro x hx
  simp only[List.mem_cons,List.not_mem_nil,or_false] at hx
  rcases hx with rfl | rfl
  ·exact⟨zB,zB,lA (by rw[<- e1];exact nA _ _) _⟩
  ·exact⟨zB,zB,lA (lA (nA _ _) _) _⟩) zB)
 rw[show({ p with q:=w.heap.size+2 }:NPtr)=p from by rw[<- hpq]] at N1
 have HR:=AS (show n.tick c ⟨d0,d1,d2⟩=if (n.cpu.tick c).2=1 then ({ n with cpu:=(n.cpu.tick c).1 },({ n with cpu:=(n.cpu.tick c).1 }:S.Node).ask c n.cpu.op ⟨d0,d1,d2⟩ out0) else if (n.cpu.tick c).2=2 then (if n.asked n.cpu.op.block then ({ n with cpu:=(n.cpu.tick c).1 },out0) else ({ n with cpu:=(n.cpu.tick c).1,asked:=upd n.asked n.cpu.op.block true },out0.send (n.home c 3 n.cpu.op.block 0))) else ({ n with cpu:=(n.cpu.tick c).1 },out0) from rfl)
 have PD':=AS (pending_any (w:=(((w.alloc (O #[V I d0,V I d1,V I d2] 74)).alloc (O #[J U 0 0,J U 0 0] 138)).alloc (O #[J U 0 0,J U 0 0] 138))) (by obtain⟨K1,-,h,-⟩:=N1.out;exact h.1.2.2.2.2.1))
 show bB dA 64 #[bA (M ⟨p.b,0,U⟩),.agg #[V I d0,V I d1,V I d2]] w (NRes (fun a b=>.agg #[a,b]) c (n.tick c ⟨d0,d1,d2⟩).1 (n.tick c ⟨d0,d1,d2⟩).2 p K w)
 generalize n.tick c ⟨d0,d1,d2⟩=R at *
 clear hN h6 hw0 hw1 e1 e2
 have CE:=AS (show ∀ (n':S.Node) (W':cA),n'.id=n.id->W'.heap[p.b]?=M (O (nodeC c n' p) 133 (0,0))->(W'.cell? ⟨p.b,0,U⟩=M (V I c.nodes)/\W'.cell? ⟨p.b,1,U⟩=M (V I c.blocks)/\W'.cell? ⟨p.b,2,U⟩=M (V I c.tokens)/\W'.cell? ⟨p.b,3,U⟩=M (V I c.sets)/\W'.cell? ⟨p.b,4,U⟩=M (V I c.ways)/\W'.cell? ⟨p.b,5,U⟩=M (V I c.cap)/\W'.cell? ⟨p.b,6,U⟩=M (V I c.wait)/\W'.cell? ⟨p.b,7,U⟩=M (V I c.tries)/\W'.cell? ⟨p.b,8,U⟩=M (V I c.policy)/\W'.cell? ⟨p.b,9,U⟩=M (V I n.id)/\W'.cell? ⟨p.b,10,U⟩=M (bA (M ⟨p.bc,0,U⟩))/\W'.cell? ⟨p.b,11,U⟩=M (bA (M ⟨p.bt,0,U⟩))/\W'.cell? ⟨p.b,12,U⟩=M (bA (M ⟨p.bp,0,U⟩))/\W'.cell? ⟨p.b,13,U⟩=M (.map (M p.ba))/\W'.cell? ⟨p.b,14,U⟩=M (.map (M p.bo))) from fun n' W' hi h=>⟨cw h 0,cw h 1,cw h 2,cw h 3,cw h 4,cw h 5,cw h 6,cw h 7,cw h 8,by rw[<- hi];exact(cw h 9),cw h 10,cw h 11,cw h 12,cw h 13,cw h 14⟩)
 generalize hpb:p.b=pb at *
 go_enter Tryz.func64,Tryz.ntmps64
 go_upto_region 2 with fail
 generalize (((w.alloc (O #[V I d0,V I d1,V I d2] 74)).alloc (O #[J U 0 0,J U 0 0] 138)).alloc (O #[J U 0 0,J U 0 0] 138))=W at N1 PD' ⊢
 generalize hg:w.heap.size=g at *
 generalize hop:n.cpu.op=op at *
 obtain⟨ob,ow,ov⟩:=op
 simp only[opV] at PD' HR
 have K0:=AS (show ∀ (n':S.Node) (o':S.Out) (bx:List (Nat×Obj)) x,NX c n' o' p K w bx x->n'.id=n.id->(x.cell? ⟨pb,12,U⟩=M (bA (M ⟨p.bp,0,U⟩))) from fun n' o' bx x hx hid=>by
  have hce:=(show _ from by have h11:=hx.node;rw[hpb] at h11;exact CE.out n' _ hid h11)
  exact hce.2.2.2.2.2.2.2.2.2.2.2.2.1)
 have hS_:=K0.out _ _ _ _ N1.out rfl
 have e0_:=hS_
 clear hS_
 go_wp2_with fail
 refine PD'.out.mono ?_
 rintro e w2 ⟨rfl,hb2⟩
 have N2:=AS ((N1.out.below hb2).box (O #[V I ob,aA ow,V I ov] 50))
 clear hb2 PD' e0_ N1
 go_upto_region 3 with fail
 generalize hga:w2.heap.size=a at N2 ⊢
 generalize w2.alloc (O #[V I ob,aA ow,V I ov] 50)=W3 at N2 ⊢
 have hS_:=K0.out _ _ _ _ N2.out rfl
 have e0_:=hS_
 clear hS_
 have TK:=AS (N2.out.call (fun K1 h=>h.ptick HW.out.1 HW.out.2))
 have hcp:n.cpu.tick c=((n.cpu.tick c).1,(n.cpu.tick c).2):=rfl
 generalize n.cpu.tick c=tk at *
 obtain⟨tp,tn⟩:=tk
 simp only at TK HR
 clear hcp
 go_wp2_with fail
 refine TK.out.mono ?_
 rintro e w4 ⟨rfl,h4⟩
 have N4:=AS h4
 clear h4 TK N2 e0_
 by_cases h1:tn=1
 case pos =>
  have hr:=HR.out.trans (if_pos h1)
  subst h1
  clear HR
  have KEEP:=AS (show ∀ (n':S.Node) (o':S.Out) (bx:List (Nat×Obj)) x,NX c n' o' p K w bx x->n'.id=n.id->(a,(O #[V I ob,aA ow,V I ov] 50:Obj))∈bx->(g,(O #[V I d0,V I d1,V I d2] 74:Obj))∈bx->(x.cell? ⟨a,0,U⟩=M (V I ob)/\x.cell? ⟨a,1,U⟩=M (aA ow)/\x.cell? ⟨a,2,U⟩=M (V I ov)/\x.cell? ⟨g,0,U⟩=M (V I d0)/\x.cell? ⟨g,1,U⟩=M (V I d1)/\x.cell? ⟨g,2,U⟩=M (V I d2)) from fun n' o' bx x hx hid m0 m1=>by
   have hb0:=hx.at_ m0
   have hb1:=hx.at_ m1
   exact⟨cw hb0 0,cw hb0 1,cw hb0 2,cw hb1 0,cw hb1 1,cw hb1 2⟩)
  have hS_:=KEEP.out _ _ _ _ N4.out rfl zB zB
  have e0_:=hS_.1
  have e1_:=hS_.2.1
  have e2_:=hS_.2.2.1
  have e3_:=hS_.2.2.2.1
  have e4_:=hS_.2.2.2.2.1
  have e5_:=hS_.2.2.2.2.2
  clear hS_
  have AS_:=AS (N4.out.call (fun K1 h=>nodeAsk_any h ⟨ob,ow,ov⟩ ⟨d0,d1,d2⟩ (by have:=targets_len c n.id ⟨d0,d1,d2⟩;show 0+(targets c n.id ⟨d0,d1,d2⟩).length≤_;omega)))
  rw[hpb,hpq] at AS_
  simp only[opV,drwV] at AS_
  go_wp2_with fail
  refine AS_.out.mono ?_
  rintro e w5 ⟨rfl,h5⟩
  have N5:=AS h5
  clear h5 AS_ KEEP N4 e0_ e1_ e2_ e3_ e4_ e5_
  obtain⟨A1,n1,c1,A2,n2,c2,hq_⟩:=N5.out.outs
  have HQ:=AS hq_
  have HQ2:=AS (show w5.heap[g+2]?=M (O #[J A1 n1 c1,J A2 n2 c2] 138 (0,0)) from by rw[<- hpq];exact hq_)
  have q0_:=cw HQ2.out 0 (v:=J A1 n1 c1)
  have q1_:=cw HQ2.out 1 (v:=J A2 n2 c2)
  have RB:=AS (N5.out.at_ (g:=g+1) (ob:=O #[J U 0 0,J U 0 0] 138) zB)
  have r0_:=cw RB.out 0 (v:=J U 0 0)
  have r1_:=cw RB.out 1 (v:=J U 0 0)
  have rz0_:=jA RB.out 0
  have rz1_:=jA RB.out 1
  clear hq_
  go_wp2
  refine yA (v:=.agg #[J A1 n1 c1,J A2 n2 c2]) (by simp[results,Tryz.results64,go_sem,r0_,r1_]) rfl ?_
  (try rw[hr])
  exact NX.fin (v:=fun a b=>.agg #[a,b]) (r:=g+1) (ob:=O #[J U 0 0,J U 0 0] 138) N5.out zB (fun x hx=>H6.out x (by rw[<- hg];exact hx)) HQ.out (by repeat (with_reducible first | exact qB _ _ | apply sB | apply KS.set1))
 case neg =>
  have hr1:=HR.out.trans (if_neg h1)
  have hd1:(decide (tn=1))=false:=by simp[h1]
  have hd1':(tn == 1)=false:=by simp[h1]
  by_cases h2:tn=2
  case pos =>
   have hr:=hr1.trans (if_pos h2)
   subst h2
   clear HR hr1
   have HR:=AS hr
   clear hr
   have KEEP:=AS (show ∀ (n':S.Node) (o':S.Out) (bx:List (Nat×Obj)) x,NX c n' o' p K w bx x->n'.id=n.id->(a,(O #[V I ob,aA ow,V I ov] 50:Obj))∈bx->(x.cell? ⟨pb,13,U⟩=M (.map (M p.ba))/\x.cell? ⟨a,0,U⟩=M (V I ob)) from fun n' o' bx x hx hid m0=>by
    have hce:=(show _ from by have h11:=hx.node;rw[hpb] at h11;exact CE.out n' _ hid h11)
    have hb0:=hx.at_ m0
    exact⟨hce.2.2.2.2.2.2.2.2.2.2.2.2.2.1,cw hb0 0⟩)
   have hS_:=KEEP.out _ _ _ _ N4.out rfl zB
   have e0_:=hS_.1
   have e1_:=hS_.2
   clear hS_
   have LK:=AS (show ∀ W',Below w4.heap.size w4 W'->(Instr.lookup 131 (.map (M p.ba)) (V I ob) false).run dA W'=.ok (aA (n.asked ob)) W' from fun W' hb=>(N4.out.below hb).have_ fun K1 h=>h.1.2.2.2.2.2.2.1.look ob)
   have lk:=LK.out w4.drew (iA (fA _ _))
   generalize has:n.asked ob=as_ at *
   go_upto_region 7 with fail
   go_cut [36] (fun v36 wx=>v36=aA (!as_)/\NX c { n with cpu:=tp } out0 p K w [(a,(O #[V I ob,aA ow,V I ov] 50:Obj)),(g+1,(O #[J U 0 0,J U 0 0] 138:Obj)),(g,(O #[V I d0,V I d1,V I d2] 74:Obj))] wx)
   case first =>
    go_region
    all_goals
     go_wp2_with fail
     go_meet
     exact⟨rfl,N4.out.drew⟩
   case rest =>
    obtain⟨rfl,hcut⟩:=hcut
    have N5:=AS hcut
    clear hcut lk LK N4 e0_ e1_
    cases as_
    case true =>
     have hr:=HR.out.trans (if_pos rfl)
     obtain⟨A1,n1,c1,A2,n2,c2,hq_⟩:=N5.out.outs
     have HQ:=AS hq_
     have HQ2:=AS (show wc.heap[g+2]?=M (O #[J A1 n1 c1,J A2 n2 c2] 138 (0,0)) from by rw[<- hpq];exact hq_)
     have q0_:=cw HQ2.out 0 (v:=J A1 n1 c1)
     have q1_:=cw HQ2.out 1 (v:=J A2 n2 c2)
     have RB:=AS (N5.out.at_ (g:=g+1) (ob:=O #[J U 0 0,J U 0 0] 138) zB)
     have r0_:=cw RB.out 0 (v:=J U 0 0)
     have r1_:=cw RB.out 1 (v:=J U 0 0)
     have rz0_:=jA RB.out 0
     have rz1_:=jA RB.out 1
     clear hq_
     go_wp2
     refine yA (v:=.agg #[J A1 n1 c1,J A2 n2 c2]) (by simp[results,Tryz.results64,go_sem,r0_,r1_]) rfl ?_
     (try rw[hr])
     exact NX.fin (v:=fun a b=>.agg #[a,b]) (r:=g+1) (ob:=O #[J U 0 0,J U 0 0] 138) N5.out zB (fun x hx=>H6.out x (by rw[<- hg];exact hx)) HQ.out (by repeat (with_reducible first | exact qB _ _ | apply sB | apply KS.set1))
    case false =>
     have hr:=HR.out.trans (if_neg zB)
     obtain⟨es,ck,hrun,hm7⟩:=(N5.out.drew).have_ fun K1 h=>h.1.2.2.2.2.2.2.1.put ob true
     simp only at hrun hm7
     have N7:=AS (N5.out.drew.via (fun K1 h=>h.maps_asked hm7))
     clear hm7
     have hS_:=KEEP.out _ _ _ _ N5.out rfl zB
     have e0_:=hS_.1
     have e1_:=hS_.2
     clear hS_
     go_upto_region 8 with fail
     go_cut [] (fun wx=>wx=aB wc.drew p.ba (.map es ck))
     case first =>
      go_region
      all_goals
       go_wp2_with fail
       go_meet
       exact rfl
     case rest =>
      rw[<- hcut] at N7
      clear hcut hrun N5 e0_ e1_
      have hS_:=KEEP.out _ _ _ _ N7.out rfl zB
      have e0_:=hS_.1
      have e1_:=hS_.2
      clear hS_
      have HM:=AS (N7.out.have_ fun K1 h=>nodeHome_any h.1 3 ob 0)
      rw[hpb] at HM
      go_wp2_with fail
      refine HM.out.mono ?_
      rintro e w8 ⟨rfl,hb8⟩
      have N8:=AS (N7.out.below hb8)
      clear hb8 HM N7
      have SD:=AS (N8.out.call (fun K1 h=>h.send (by show 0≤_;omega) (n.home c 3 ob 0)))
      rw[hpq] at SD
      simp only[Node.home] at SD
      simp only[letV,Node.home,b0]
      go_wp2_with fail
      refine SD.out.mono ?_
      rintro e w9 ⟨rfl,h9⟩
      have N9:=AS h9
      clear h9 SD N8
      obtain⟨A1,n1,c1,A2,n2,c2,hq_⟩:=N9.out.outs
      have HQ:=AS hq_
      have HQ2:=AS (show w9.heap[g+2]?=M (O #[J A1 n1 c1,J A2 n2 c2] 138 (0,0)) from by rw[<- hpq];exact hq_)
      have q0_:=cw HQ2.out 0 (v:=J A1 n1 c1)
      have q1_:=cw HQ2.out 1 (v:=J A2 n2 c2)
      have RB:=AS (N9.out.at_ (g:=g+1) (ob:=O #[J U 0 0,J U 0 0] 138) zB)
      have r0_:=cw RB.out 0 (v:=J U 0 0)
      have r1_:=cw RB.out 1 (v:=J U 0 0)
      have rz0_:=jA RB.out 0
      have rz1_:=jA RB.out 1
      clear hq_
      go_wp2
      refine yA (v:=.agg #[J A1 n1 c1,J A2 n2 c2]) (by simp[results,Tryz.results64,go_sem,r0_,r1_]) rfl ?_
      (try rw[hr])
      exact NX.fin (v:=fun a b=>.agg #[a,b]) (r:=g+1) (ob:=O #[J U 0 0,J U 0 0] 138) N9.out zB (fun x hx=>H6.out x (by rw[<- hg];exact hx)) HQ.out (by repeat (with_reducible first | exact qB _ _ | apply sB | apply KS.set1))
  case neg =>
   have hr:=hr1.trans (if_neg h2)
   have hd2:(decide (tn=2))=false:=by simp[h2]
   have hd2':(tn == 2)=false:=by simp[h2]
   obtain⟨A1,n1,c1,A2,n2,c2,hq_⟩:=N4.out.outs
   have HQ:=AS hq_
   have HQ2:=AS (show w4.heap[g+2]?=M (O #[J A1 n1 c1,J A2 n2 c2] 138 (0,0)) from by rw[<- hpq];exact hq_)
   have q0_:=cw HQ2.out 0 (v:=J A1 n1 c1)
   have q1_:=cw HQ2.out 1 (v:=J A2 n2 c2)
   have RB:=AS (N4.out.at_ (g:=g+1) (ob:=O #[J U 0 0,J U 0 0] 138) zB)
   have r0_:=cw RB.out 0 (v:=J U 0 0)
   have r1_:=cw RB.out 1 (v:=J U 0 0)
   have rz0_:=jA RB.out 0
   have rz1_:=jA RB.out 1
   clear hq_
   go_wp2
   refine yA (v:=.agg #[J A1 n1 c1,J A2 n2 c2]) (by simp[results,Tryz.results64,go_sem,r0_,r1_]) rfl ?_
   (try rw[hr])
   exact NX.fin (v:=fun a b=>.agg #[a,b]) (r:=g+1) (ob:=O #[J U 0 0,J U 0 0] 138) N4.out zB (fun x hx=>H6.out x (by rw[<- hg];exact hx)) HQ.out (by repeat (with_reducible first | exact qB _ _ | apply sB | apply KS.set1))
theorem nodeTick_any {c:Cfg} {n:S.Node} {p:NPtr} {K:Nat->Nat} {w:cA} (hN:NodeK c n p K w) (h6:∀ x,x < w.heap.size->K x≠6) (hw0:0≤c.wait) (hw1:c.wait≤64) (d:Drw):bB dA 64 #[bA (M ⟨p.b,0,U⟩),drwV d] w (NRes (fun a b=>.agg #[a,b]) c (n.tick c d).1 (n.tick c d).2 p K w) :=
 nodeTick_aux (p:={ p with q:=w.heap.size+2 }) hN rfl h6 hw0 hw1 d
end Go.Proofs.YtiebppkhaiofeaaGreat.K
