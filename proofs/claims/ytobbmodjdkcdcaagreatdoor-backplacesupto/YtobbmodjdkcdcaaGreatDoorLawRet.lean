import Derived.Test.YtobbmodjdkcdcaaGreatDoorLawInside
import Derived.Test.YtobbmodjdkcdcaaGreatDoorLawRead
import Derived.Test.YtobbmodjdkcdcaaGreatDoorLawChecksM
set_option linter.unusedVariables false
set_option linter.unusedSimpArgs false
set_option linter.unusedSectionVars false
set_option maxRecDepth 20000
set_option maxHeartbeats 1000000
namespace Go.Proofs.YtobbmodjdkcdcaaGreatDoor
open Go Go.Sim
variable [Fu]
theorem tF (c:aA):∃b,eY c=some b:=by
 unfold eY
 have key:∀(x a b e:Int) (y:Bool),∃z,(bif y then(bV x a b).bind fun y4=>some y4 else some false:Option Bool)=some z:=fun x a b e y=>by cases y<;>exact⟨_,rfl⟩
 obtain⟨z1,e1⟩:=key c.Left 1 8 0 ((c.Master.length:Int)==32)
 rw[e1];simp only[ae]
 obtain⟨z2,e2⟩:=key c.Span 1 8 0 z1
 rw[e2];simp only[ae]
 obtain⟨z3,e3⟩:=key c.Room 0 4096 0 z2
 rw[e3];simp only[ae]
 obtain⟨z4,e4⟩:=key c.Den 1 1000 0 z3
 rw[e4];simp only[ae]
 obtain⟨z5,e5⟩:=key c.Num 0 c.Den 0 z4
 rw[e5];simp only[ae]
 obtain⟨z6,e6⟩:=key c.Noise 0 16 0 z5
 rw[e6];simp only[ae]
 obtain⟨z7,e7⟩:=key c.Chunks 1 64 0 z6
 rw[e7];simp only[ae]
 obtain⟨z8,e8⟩:=key c.Workers 1 64 0 z7
 rw[e8];simp only[ae]
 obtain⟨z9,e9⟩:=key c.Cap 0 1024 0 z8
 rw[e9];simp only[ae]
 obtain⟨z10,e10⟩:=key c.Shards 1 64 0 z9
 rw[e10];exact⟨_,rfl⟩
theorem wn:eN ⟨0,[]⟩=some 0:=by
 unfold eN
 rw[Loop.run_done (r:=0) rfl];rfl
theorem tK:ei ⟨0,[]⟩=some []:=by
 unfold ei
 rw[Loop.run_done (r:=[]) rfl];rfl
theorem tL (s r:Int):∃v,ej ⟨0,[]⟩ s r=some v:=by
 unfold ej
 cases ((((decide (s<1))||(decide (s>8)))||(decide (r<0)))||(decide (r>4096))) with
 |true=>exact⟨_,rfl⟩
 |false=>
  rw[cond_false,wn,tK]
  have e1:((decide ((0:Int)<0))||(decide ((0:Int)>4611686018427387904)))=false:=by decide
  simp only[e1,cond_false,ae]
  cases decide ((0:Int)>r) with
  |true=>exact⟨_,rfl⟩
  |false=>
   have e2:(((([]:List (List Int×Int)).length:Int)) != 0)=false:=by decide
   simp only[cond_false,ae,e2]
   rw[Loop.run_done (r:= .inl ()) rfl]
   exact⟨_,rfl⟩
def wo:aD:=⟨0,⟨0,[]⟩⟩
theorem rx (c:aA):∃v,ee c wo=some v∧(v=0∨v=210):=by
 unfold ee wo
 obtain⟨b,hb⟩:=tF c
 obtain⟨v,hv⟩:=tL c.Span c.Room
 rw[hb]
 simp only[ae]
 rw[hv]
 simp only[ae]
 cases ((!b)||(decide ((0:Int)<0)))||(decide ((0:Int)>4611686018427387904)) with
 |true=>exact⟨210,rfl,.inr rfl⟩
 |false=>
  simp only[cond_false,ae]
  cases v != 0 with
  |true=>exact⟨210,rfl,.inr rfl⟩
  |false=>exact⟨0,rfl,.inl rfl⟩
theorem uq {α:Type} {n q:Nat} {f g:Nat→α} {v:α} (h:q<n) (hv:v=g q) (hs:∀p,p<n→p≠q→f p=g p):List.set ((List.range n).map f) q v=(List.range n).map g:=by
 subst hv
 apply List.ext_getElem
 · simp
 · intro p h1 h2
   rw[List.getElem_set]
   simp only[List.getElem_map,List.getElem_range]
   split
   · rename_i e;rw[e]
   · rename_i e;exact hs p (by simpa using h2) (by omega)
theorem mK {α:Type} {n:Nat} {f g:Nat→α} (hs:∀p,p<n→f p=g p):(List.range n).map f=(List.range n).map g:=by
 apply List.map_congr_left
 intro p hp;exact hs p (by simpa using hp)
theorem tM {α:Type} {n q:Nat} {f:Nat→α} (d:α) (h:q<n):((List.range n).map f).getD q d=f q:=by
 simp[List.getD,h]
section
variable (key:List Int) (l:Int) (fr:List Int) (ns cs:List (List Int))
def hitB (q i:Nat):Bool:=fr.getD i 0==(q:Int)&&(insS l (cs.getD i [])).2
def fu (q:Nat):Nat→List Int
 |0=>List.replicate 320 0
 |i+1=>bif hitB l fr cs q i then(ansB key (ns.getD q []) l (cs.getD i [])).1 else fu q i
def fv (q:Nat):Nat→Bool
 |0=>false
 |i+1=>hitB l fr cs q i||fv q i
end
section
variable {key:List Int} {l:Int} {fr:List Int} {ns cs:List (List Int)}
structure Ctx (key:List Int) (l:Int) (fr:List Int) (ns cs:List (List Int)):Prop where
 hk:key.length=32
 hl:1≤l∧l≤8
 hcs:∀i,i<cs.length→(cs.getD i []).length=320∧be (cs.getD i [])
 hns:∀q,q<ns.length→(ns.getD q []).length=16∧be (ns.getD q [])
 hlen:cs.length=fr.length
 hfl:fr.length≤256
 hnl:ns.length≤256
 hfr:∀i,i<fr.length→fr.getD i 0<ns.length
 hinj:∀i j,i<j→j<fr.length→0≤fr.getD j 0→fr.getD i 0≠fr.getD j 0
theorem pf {q i:Nat}:hitB l fr cs q i=true↔fr.getD i 0=(q:Int)∧(insS l (cs.getD i [])).2=true:=by
 unfold hitB;rw[Bool.and_eq_true,beq_iff_eq]
theorem ur (x:Ctx key l fr ns cs) {q:Nat} (hq:q<ns.length):∀i,i≤fr.length→(fu key l fr ns cs q i).length=320∧be (fu key l fr ns cs q i)
 |0,_=>⟨by simp[fu],fun b h=>by unfold fu at h;rw[List.eq_of_mem_replicate h];omega⟩
 |i+1,h=>by
  unfold fu
  cases hh:hitB l fr cs q i with
  |false=>exact ur x hq i (by omega)
  |true=>
   obtain⟨_,h2⟩:=pf.1 hh
   obtain⟨c1,c2⟩:=x.hcs i (by rw[x.hlen];omega)
   obtain⟨n1,n2⟩:=x.hns q hq
   obtain⟨_,p2,p3,_⟩:=qv (key:=key) n1 n2 c1 c2 x.hl h2
   exact⟨p2,p3⟩
theorem sg {q i:Nat}:∀k,i≤k→(∀j,i≤j→j<k→hitB l fr cs q j=false)→fu key l fr ns cs q k=fu key l fr ns cs q i
 |0,h,_=>by rw[show i=0 by omega]
 |k+1,h,hj=>by
  by_cases e:i=k+1
  · rw[e]
  · rw[fu,hj k (by omega) (by omega),cond_false]
    exact sg k (by omega) fun j a b=>hj j a (by omega)
theorem xi (x:Ctx key l fr ns cs) {q i:Nat} (hi:i<fr.length) (h:hitB l fr cs q i=true):fu key l fr ns cs q fr.length=(ansB key (ns.getD q []) l (cs.getD i [])).1:=by
 rw[sg (i:=i+1) fr.length (by omega) ?_,fu,h,cond_true]
 intro j h1 h2
 cases hj:hitB l fr cs q j with
 |false=>rfl
 |true=>
  obtain⟨a,_⟩:=pf.1 h
  obtain⟨b,_⟩:=pf.1 hj
  exact absurd (a.trans b.symm) (x.hinj i j (by omega) h2 (by omega))
theorem pg {q:Nat}:∀k,fv l fr cs q k=false→fu key l fr ns cs q k=List.replicate 320 0
 |0,_=>rfl
 |k+1,h=>by
  rw[fv,Bool.or_eq_false_iff] at h
  rw[fu,h.1,cond_false]
  exact pg k h.2
end
def gR (key:List Int) (l:Int) (fr:List Int) (ns cs:List (List Int)):List (List Int):=(List.range ns.length).map fun q=>fu key l fr ns cs q fr.length
theorem vk {c:aA} {m:aI} {raw:List Int} (hl:raw.length<2^30) (hb:be raw) (hcl:gInt .i64 c.Left) (hn:∀x∈m.Nonces,x.length=16∧be x):
  ∃r,eZ c m raw=some r∧((r.2.2≠0∧r.1=[]∧0≤r.2.1∧r.2.1≤raw.length)∨
   (r.2=(0,0)∧∃b at_,cw raw=some (b,at_,0)∧(keyS c.Master m.Header.Epoch).2=0∧(m.Nonces.length:Int)=m.Count∧Ctx (keyS c.Master m.Header.Epoch).1 c.Left m.From m.Nonces b.Cells∧
    cw r.1=some (⟨{m.Header with Left:=c.Left},gR (keyS c.Master m.Header.Epoch).1 c.Left m.From m.Nonces b.Cells⟩,0,0))):=by
 have hroomI:(room:Int)=17179869184:=rfl
 obtain⟨v,hv,hv0⟩:=rx c
 have h':ee c (⟨(0:Int),(⟨(0:Int),[]⟩:ab)⟩:aD)=some v:=hv
 unfold eZ
 rw[h']
 simp only[ae]
 rcases hv0 with rfl|rfl
 case inr=>exact⟨_,rfl,.inl ⟨by decide,rfl,by simp,by simp⟩⟩
 simp only[bne_self_eq_false,cond_false]
 rw[th]
 simp only[ae]
 cases hc:(rm m != 0)||(m.Header.Left != (IntKind.wrap .i64 (c.Left - 1))) with
 |true=>exact⟨_,rfl,.inl ⟨by simp,rfl,by simp,by simp⟩⟩
 |false=>
  rw[Bool.or_eq_false_iff,bne_eq_false_iff_eq,bne_eq_false_iff_eq] at hc
  obtain⟨hc1,hc2⟩:=hc
  unfold rm at hc1
  cases hh:rV m with
  |true=>rw[hh] at hc1;simp at hc1
  |false=>
   rw[hh,cond_false] at hc1
   cases ha:gF (okF m) m.From.length 0 with
   |false=>rw[ha] at hc1;simp at hc1
   |true=>
    rw[nu] at ha
    unfold rV at hh
    simp only[Bool.or_eq_false_iff,decide_eq_false_iff_not,bne_eq_false_iff_eq] at hh
    obtain⟨⟨⟨⟨⟨⟨⟨⟨⟨a1,a2⟩,a3⟩,a4⟩,a5⟩,a6⟩,a7⟩,a8⟩,a9⟩,a10⟩:=hh
    have hcl': -9223372036854775808≤c.Left∧c.Left≤9223372036854775807:=hcl
    have hL:c.Left=m.Header.Left+1:=by
     by_cases hm:c.Left= -9223372036854775808
     · rw[hm] at hc2
       have:IntKind.wrap .i64 (-9223372036854775808 - 1)=9223372036854775807:=by decide
       omega
     · rw[wrap64 (by omega)] at hc2;omega
    obtain⟨b,hbr,hcells,hat1,hat2⟩:=mZ hl hb
    rw[cond_false,hbr]
    simp only[ae]
    cases hz:b.2.2 != 0 with
    |true=>exact⟨_,rfl,.inl ⟨by simpa using hz,rfl,hat1,hat2⟩⟩
    |false=>
     have hz0:b.2.2=0:=by simpa using hz
     obtain⟨_,_,hgood⟩:=hcells hz0
     rw[cond_false]
     cases b.1.Header.Left != m.Header.Left with
     |true=>exact⟨_,rfl,.inl ⟨by simp,rfl,by simp,by simp⟩⟩
     | false =>
       rw[cond_false]
       cases b.1.Header.Round != m.Header.Round with
       |true=>exact⟨_,rfl,.inl ⟨by simp,rfl,by simp,by simp⟩⟩
       |false=>
        rw[cond_false]
        cases b.1.Header.Epoch != m.Header.Epoch with
        |true=>exact⟨_,rfl,.inl ⟨by simp,rfl,by simp,by simp⟩⟩
        |false=>
         rw[cond_false]
         cases hcl2:(b.1.Cells.length:Int) != (m.From.length:Int) with
         |true=>exact⟨_,rfl,.inl ⟨by simp,rfl,by simp,by simp⟩⟩
         |false=>
          have hcl2:b.1.Cells.length=m.From.length:=by simp at hcl2;omega
          rw[cond_false,qM]
          simp only[ae]
          cases hke:(keyS c.Master m.Header.Epoch).2 != 0 with
          |true=>exact⟨_,rfl,.inl ⟨by simpa using hke,rfl,by simp,by simp⟩⟩
          |false=>
           have hke0:(keyS c.Master m.Header.Epoch).2=0:=by simpa using hke
           have hkl:=wm hke0
           have x:Ctx (keyS c.Master m.Header.Epoch).1 c.Left m.From m.Nonces b.1.Cells:=by
             refine⟨hkl,by omega,fun i hi=>?_,fun q hq=>?_,hcl2,by omega,by omega,fun i hi=>?_,fun i j h1 h2 h3 h4=>?_⟩
             · have e:b.1.Cells.getD i []=b.1.Cells[i]:=by simp[List.getD,hi]
               rw[e];exact hgood _ (List.getElem_mem hi)
             · have e:m.Nonces.getD q []=m.Nonces[q]:=by simp[List.getD,hq]
               rw[e];exact hn _ (List.getElem_mem hq)
             · have h:=ha i (by omega) (by omega)
               unfold okF at h
               simp only[Bool.or_eq_true,beq_iff_eq,Bool.and_eq_true,decide_eq_true_eq] at h
               omega
             · have h:=ha j (by omega) (by omega)
               unfold okF at h
               simp only[Bool.or_eq_true,beq_iff_eq,Bool.and_eq_true,decide_eq_true_eq,Bool.not_eq_true'] at h
               rcases h with h|⟨_,h⟩
               · omega
               · have hm:m.From.getD j 0∈m.From.take j:=by
                   rw[←h4,uk _ _ (by omega)]
                   exact List.mem_take_iff_getElem.2 ⟨i,by omega,rfl⟩
                 rw[List.elem_eq_mem] at h
                 exact absurd hm (of_decide_eq_false h)
           generalize (keyS c.Master m.Header.Epoch).1=key at*
           obtain⟨n,hnn⟩:∃n:Nat,m.Count=n:=⟨m.Count.toNat,by omega⟩
           have hnl:m.Nonces.length=n:=by omega
           have g:mkB m.Count m.Count=true:=by unfold mkB;rw[hroomI];simp;omega
           have g3:mkB 320 320=true:=by decide
           rw[cond_false,g,cond_true,hnn,Int.toNat_natCast]
           rw[bw (fun i=>((i:Int),part1 n (fun _=>List.replicate 320 (0:Int)) (fun _=>([]:List Int)) i)) 0 n (r:=(List.range n).map fun _=>List.replicate 320 (0:Int)) (by omega) ?_ ?_ ?_]
           · simp only[ae]
             rw[bw (s0:=((0:Int),(List.range n).map fun _=>List.replicate 320 (0:Int))) (r:=(⟨({m.Header with Left:=c.Left}:aa),gR key c.Left m.From m.Nonces b.1.Cells⟩:aG)) (fun i=>((i:Int),(List.range n).map fun q=>fu key c.Left m.From m.Nonces b.1.Cells q i)) 0 m.From.length (by omega) ?_ ?_ rfl]
             · simp only[ae]
               have hol:(gR key c.Left m.From m.Nonces b.1.Cells).length=n:=by simp[gR,hnl]
               have hall:∀y∈gR key c.Left m.From m.Nonces b.1.Cells,y.length=320:=fun y hy=>by
                 obtain⟨q,hq,rfl⟩:=List.mem_map.1 hy
                 exact(ur x (by simpa using hq) _ (Nat.le_refl _)).1
               have hinv:InvH ({m.Header with Left:=c.Left}:aa):=⟨⟨by show 0≤c.Left;omega,by show c.Left≤8;omega⟩,⟨by show 0≤m.Header.Round;omega,by show m.Header.Round≤_;omega⟩,⟨by show 0≤m.Header.Epoch;omega,by show m.Header.Epoch≤_;omega⟩⟩
               have hfits:oO ({m.Header with Left:=c.Left}:aa)=true:=by
                 unfold oO
                 simp only[Bool.and_eq_true,decide_eq_true_eq]
                 exact⟨⟨⟨⟨⟨hinv.1.1,hinv.1.2⟩,hinv.2.1.1⟩,hinv.2.1.2⟩,hinv.2.2.1⟩,hinv.2.2.2⟩
               have hp:kV (⟨({m.Header with Left:=c.Left}:aa),gR key c.Left m.From m.Nonces b.1.Cells⟩:aG)=(qq (⟨({m.Header with Left:=c.Left}:aa),gR key c.Left m.From m.Nonces b.1.Cells⟩:aG),0):=by
                 unfold kV
                 have h1:decide (((gR key c.Left m.From m.Nonces b.1.Cells).length:Int)>256)=false:=decide_eq_false (by omega)
                 have h2:((gR key c.Left m.From m.Nonces b.1.Cells).all fun c=>c.length==320)=true:=by
                   rw[List.all_eq_true];intro y hy;rw[beq_iff_eq];exact hall y hy
                 simp only[hfits,h1,h2,Bool.not_true,cond_false,cond_true]
               rw[ti,hp]
               refine⟨_,rfl,.inr ⟨rfl,b.1,b.2.1,by rw[←hz0],hke0,by omega,x,?_⟩⟩
               exact pe (b:=(⟨({m.Header with Left:=c.Left}:aa),gR key c.Left m.From m.Nonces b.1.Cells⟩:aG)) hinv (by show(gR key c.Left m.From m.Nonces b.1.Cells).length≤256;omega) hall
             · intro i _ hi
               have hd:decide ((i:Int)<(m.From.length:Int))=true:=decide_eq_true (by omega)
               simp only[hd,cond_true]
               rw[aW (i:=i) rfl hi]
               simp only[ae]
               rw[wrap64 (by omega)]
               cases hneg:decide (m.From.getD i 0<0) with
               | true =>
                 have hneg:=of_decide_eq_true hneg
                 simp only[cond_true,ae]
                 rw[mK (g:=fun q=>fu key c.Left m.From m.Nonces b.1.Cells q (i+1)) fun q _=>?_]
                 · rfl
                 · rw[fu,show hitB c.Left m.From b.1.Cells q i=false by unfold hitB;rw[show(m.From.getD i 0==(q:Int))=false by rw[beq_eq_false_iff_ne];omega];rfl];rfl
               | false =>
                 have hneg:=of_decide_eq_false hneg
                 obtain⟨q,hq⟩:∃q:Nat,m.From.getD i 0=q:=⟨(m.From.getD i 0).toNat,by omega⟩
                 have hqn:=x.hfr i hi
                 have hqn:q<m.Nonces.length:=by omega
                 have hic:i<b.1.Cells.length:=by omega
                 obtain⟨c1,c2⟩:=x.hcs i hic
                 obtain⟨n1,n2⟩:=x.hns q hqn
                 simp only[cond_false,hq]
                 rw[cY (i:=q) [] rfl hqn]
                 simp only[ae]
                 rw[cY (i:=i) [] rfl hic]
                 simp only[ae]
                 rw[sa hkl n1 c1 c2 x.hl]
                 simp only[ae]
                 have hne:∀p,p≠q→hitB c.Left m.From b.1.Cells p i=false:=fun p hp=>by
                   unfold hitB;rw[hq,show((q:Int)==(p:Int))=false by rw[beq_eq_false_iff_ne];omega];rfl
                 have hme:hitB c.Left m.From b.1.Cells q i=(insS c.Left (b.1.Cells.getD i [])).2:=by
                   unfold hitB;rw[hq,beq_self_eq_true,Bool.true_and]
                 have ha2:(ansB key (m.Nonces.getD q []) c.Left (b.1.Cells.getD i [])).2=(insS c.Left (b.1.Cells.getD i [])).2:=by
                   unfold ansB;cases (insS c.Left (b.1.Cells.getD i [])).2<;>rfl
                 rw[ha2]
                 cases hy:(insS c.Left (b.1.Cells.getD i [])).2 with
                 | false =>
                   simp only[cond_false,ae]
                   rw[mK (g:=fun q=>fu key c.Left m.From m.Nonces b.1.Cells q (i+1)) fun p _=>?_]
                   · rfl
                   · rw[fu]
                     by_cases e:p=q
                     · rw[e,hme,hy];rfl
                     · rw[hne p e];rfl
                 | true =>
                   simp only[cond_true]
                   rw[cY (i:=q) [] rfl (by simp;omega)]
                   simp only[ae,Int.toNat_natCast]
                   rw[uq (g:=fun q=>fu key c.Left m.From m.Nonces b.1.Cells q (i+1)) (by omega) ?_ fun p _ e=>?_]
                   · rfl
                   · show _=fu key c.Left m.From m.Nonces b.1.Cells q (i+1)
                     rw[fu,hme,hy];rfl
                   · rw[fu,hne p e];rfl
             · have hd:decide ((m.From.length:Int)<(m.From.length:Int))=false:=decide_eq_false (by omega)
               simp only[hd,cond_false]
               unfold gR
               rw[hnl]
           · intro i _ hi
             have h1:decide ((i:Int)<((List.replicate n ([]:List Int)).length:Int))=true:=decide_eq_true (by simp;omega)
             simp only[h1,g3,cond_true]
             rw[cY (i:=i) [] rfl (by rw[df];exact hi)]
             simp only[ae]
             have t320:List.replicate (Int.toNat 320) (0:Int)=List.replicate 320 0:=rfl
             rw[wrap64 (by omega),Int.toNat_natCast,t320,eF (f:=fun _=>List.replicate 320 (0:Int)) hi rfl];rfl
           · have h1:decide ((n:Int)<((List.replicate n ([]:List Int)).length:Int))=false:=decide_eq_false (by simp)
             simp only[h1,cond_false]
             rw[gy]
           · rw[ka]
             congr 1
             apply List.ext_getElem
             · simp
             · intro i h1 h2;simp
end Go.Proofs.YtobbmodjdkcdcaaGreatDoor
