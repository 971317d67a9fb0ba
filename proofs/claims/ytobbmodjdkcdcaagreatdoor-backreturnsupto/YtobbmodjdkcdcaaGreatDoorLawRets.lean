import Derived.Test.YtobbmodjdkcdcaaGreatDoorLawRet
import Derived.Test.YtobbmodjdkcdcaaGreatDoorLawFeedK
set_option linter.unusedVariables false
set_option linter.unusedSimpArgs false
set_option linter.unusedSectionVars false
set_option maxRecDepth 20000
set_option maxHeartbeats 1000000
namespace Go.Proofs.YtobbmodjdkcdcaaGreatDoor
open Go Go.Sim
variable [Fu]
theorem wk (c:aB):∃b,eR c=some b∧(b=true→1≤c.Span∧c.Span≤8∧0≤c.Room∧c.Room≤4096):=by
 have key:∀(x a b:Int) (y:Bool),(bif y then(bZ x a b).bind fun y4=>some y4 else some false:Option Bool)=some (y&&(decide (a≤x)&&decide (x≤b))):=fun x a b y=>by cases y<;>rfl
 unfold eR
 simp only[key,af]
 refine⟨_,rfl,fun h=>?_⟩
 simp only[Bool.and_eq_true,decide_eq_true_eq] at h
 omega
theorem wl (a b c:Int):bZ a b c=bg a b c:=by simp[bZ,bg]
theorem xV (c:aB):eR c=dM c:=by simp only[eR,dM,wl]
theorem xW (c:aB):∃b,dM c=some b∧gg c (⟨(0:Int),(⟨(0:Int),[]⟩:ah)⟩:aL)=some (bif b then 0 else 210):=by
 obtain⟨b,hb,h⟩:=wk c
 refine⟨b,by rw[←xV];exact hb,?_⟩
 unfold gg
 rw[hb]
 simp only[af]
 cases b with
 |false=>rfl
 |true=>
  obtain⟨h1,h2,h3,h4⟩:=h rfl
  have w:fJ ⟨0,[]⟩ c.Span c.Room=some 0:=by
   unfold fJ
   have e0:((((decide (c.Span<1))||(decide (c.Span>8)))||(decide (c.Room<0)))||(decide (c.Room>4096)))=false:=by
    rw[decide_eq_false (by omega),decide_eq_false (by omega),decide_eq_false (by omega),decide_eq_false (by omega)];rfl
   rw[e0,cond_false,zd,wj]
   have e1:((decide ((0:Int)<0))||(decide ((0:Int)>4611686018427387904)))=false:=by decide
   have e3:decide ((0:Int)>c.Room)=false:=decide_eq_false (by omega)
   have e2:(((([]:List (List Int×Int)).length:Int)) != 0)=false:=by decide
   simp only[e1,e3,cond_false,af,e2]
   rw[Loop.run_done (r:= .inl ()) rfl]
   rfl
  have e5:(!true||decide ((0:Int)<0)||decide ((0:Int)>4611686018427387904))=false:=by decide
  rw[e5,cond_false,w]
  rfl
theorem wm {x:List Int} {l:Int} (hx:x.length=320) (hb:aS x) (hl:1≤l∧l≤8):ey l x=some (insS l x):=by
 unfold ey insS
 cases h1:(l==1) with
 |true=>rw[cond_true,cond_true,yN hb];rfl
 |false=>
  rw[cond_false,cond_false,wrap64 (by omega),uS]
  simp only[af]
  rw[Ai rfl (lB _)]
  simp only[af]
  have hc:(cutS x (ba (l - 1)))=bif nz (x.drop (ba (l - 1))) then([],51) else(x.take (ba (l - 1)),0):=by
   unfold cutS
   have:(x.length != 320)=false:=by rw[hx];rfl
   rw[this];rfl
  rw[hc]
  have hsplit:nz x=(nz (x.take (ba (l - 1)))||nz (x.drop (ba (l - 1)))):=by
   unfold nz;rw[←List.any_append,List.take_append_drop]
  cases hd:nz (x.drop (ba (l - 1))) with
  |true=>rw[hsplit,hd,Bool.or_true];rfl
  |false=>
   rw[hsplit,hd,Bool.or_false]
   simp only[cond_false,bne_self_eq_false]
   generalize hP:x.take (ba (l - 1))=P
   have hpl:P.length≤320:=by rw[←hP];simp;omega
   rw[ri (p:=fun i=>P.getD i 0 != 0) (good:= .inl ()) (bad:= .inr (P,true)) (nz P) 0 P.length (by omega) (by have:=wh (l:=P) (a:=0);rw[List.drop_zero] at this;exact this) ?_ (ef (decide_eq_false (by omega))) (by rfl)]
   · cases nz P<;>rfl
   · intro i _ hi
     have h1:decide ((i:Int)<(P.length:Int))=true:=decide_eq_true (by omega)
     rw[h1,cond_true,ar rfl hi]
     simp only[af]
     rw[wrap64 (by omega)];cases P.getD i 0 != 0<;>rfl
theorem wn {key nonce x:List Int} {l:Int} (hk:key.length=32) (hn:nonce.length=16):fu key nonce l x=some (kq (ownS key nonce) nonce l x):=by
 unfold fu gZ ownS
 have e0:((key.length:Int) != 32)=false:=by rw[hk];rfl
 have e1:decide (0<[99,104,117,114,110,32,98,97,99,107].length)=true:=by decide
 have e2:([99,104,117,114,110,32,98,97,99,107]:List Int)=BKS:=rfl
 rw[e0,e1,cond_false,cond_true,e2,nT (z:=32) (n:=32) rfl (by omega) (by omega) (by omega) (by simp[BKS])]
 simp only[af,bne_self_eq_false,cond_false]
 rw[xZ hn]
 unfold zi
 have e3:((derS key nonce BKS 32).length != 32)=false:=by rw[lC];rfl
 rw[e3]
 rfl
theorem zf {o:List Int} (h:o.length≤320):over (List.replicate 320 (0:Int)) 0 320 o=padS o:=by
 rw[kP (by omega) (by simp)]
 have t:o.take (320 - 0)=o:=List.take_of_length_le (by omega)
 rw[t,List.take_zero,List.nil_append,List.drop_replicate]
 unfold padS
 congr 2;omega
theorem zg {key:List Int} {l:Int} {fr:List Int} {ns cs:List (List Int)} (x:Ctx key l fr ns cs) {q i:Nat} (hi:i<fr.length) (h:fr.getD i 0=(q:Int)):fQ key l fr ns cs q i=List.replicate 320 0:=by
 rw[uV (i:=0) i (by omega) fun j _ hj=>?_]
 · rfl
 · unfold hitB
   rw[show(fr.getD j 0==(q:Int))=false by rw[beq_eq_false_iff_ne];intro e;exact x.hinj j i hj hi (by omega) (by rw[e,h])];rfl
theorem wo {c:aB} {m:aK} {raw:List Int} (hl:raw.length<2^30) (hb:aS raw) (hcl:gInt .i64 c.Left) (hn:∀x∈m.Nonces,x.length=16∧aS x):
  ∃r,gh c m raw=some r∧eK c m raw=some r:=by
 have hroomI:(room:Int)=17179869184:=rfl
 obtain⟨v,hv1,hv2⟩:=xW c
 unfold gh eK
 rw[hv2,hv1]
 simp only[af]
 cases v with
 |false=>exact⟨_,rfl,rfl⟩
 |true=>
  simp only[cond_true,Bool.not_true,bne_self_eq_false,cond_false]
  rw[vW,uq]
  simp only[af]
  cases hc:(py m != 0)||(m.Header.Left != (IntKind.wrap .i64 (c.Left - 1))) with
  |true=>exact⟨_,rfl,rfl⟩
  |false=>
   rw[Bool.or_eq_false_iff,bne_eq_false_iff_eq,bne_eq_false_iff_eq] at hc
   obtain⟨hc1,hc2⟩:=hc
   unfold py at hc1
   cases hh:pZ m with
   |true=>rw[hh] at hc1;simp at hc1
   |false=>
    rw[hh,cond_false] at hc1
    cases ha:hZ (okF m) m.From.length 0 with
    |false=>rw[ha] at hc1;simp at hc1
    |true=>
     rw[mU] at ha
     unfold pZ at hh
     simp only[Bool.or_eq_false_iff,decide_eq_false_iff_not,bne_eq_false_iff_eq] at hh
     obtain⟨⟨⟨⟨⟨⟨⟨⟨⟨a1,a2⟩,a3⟩,a4⟩,a5⟩,a6⟩,a7⟩,a8⟩,a9⟩,a10⟩:=hh
     have hcl': -9223372036854775808≤c.Left∧c.Left≤9223372036854775807:=hcl
     have hL:c.Left=m.Header.Left+1:=by
      by_cases hm:c.Left= -9223372036854775808
      · rw[hm] at hc2
        have:IntKind.wrap .i64 (-9223372036854775808 - 1)=9223372036854775807:=by decide
        omega
      · rw[wrap64 (by omega)] at hc2;omega
     obtain⟨b,hbr,hcells,hat1,hat2⟩:=pK hl hb
     have hbf:=hbr.symm.trans (qY hl hb)
     rw[cond_false,cond_false,hbr,tx hl hb,←hbf]
     simp only[af]
     cases hz:b.2.2 != 0 with
     |true=>exact⟨_,rfl,rfl⟩
     |false=>
      have hz0:b.2.2=0:=by simpa using hz
      obtain⟨_,_,hgood⟩:=hcells hz0
      rw[cond_false,cond_false]
      cases b.1.Header.Left != m.Header.Left with
      |true=>exact⟨_,rfl,rfl⟩
      | false =>
        rw[cond_false,cond_false]
        cases b.1.Header.Round != m.Header.Round with
        |true=>exact⟨_,rfl,rfl⟩
        |false=>
         rw[cond_false,cond_false]
         cases b.1.Header.Epoch != m.Header.Epoch with
         |true=>exact⟨_,rfl,rfl⟩
         |false=>
          rw[cond_false,cond_false]
          cases hcl2:(b.1.Cells.length:Int) != (m.From.length:Int) with
          |true=>exact⟨_,rfl,rfl⟩
          |false=>
           have hcl2:b.1.Cells.length=m.From.length:=by simp at hcl2;omega
           rw[cond_false,cond_false,xU,Ak]
           simp only[af]
           cases hke:(keyS c.Master m.Header.Epoch).2 != 0 with
           |true=>exact⟨_,rfl,rfl⟩
           |false=>
           have hke0:(keyS c.Master m.Header.Epoch).2=0:=by simpa using hke
           have hkl:=zc hke0
           have x:Ctx (keyS c.Master m.Header.Epoch).1 c.Left m.From m.Nonces b.1.Cells:=by
             refine⟨hkl,by omega,fun i hi=>?_,fun q hq=>?_,hcl2,by omega,by omega,fun i hi=>?_,fun i j h1 h2 h3 h4=>?_⟩
             · have e:b.1.Cells.getD i []=b.1.Cells[i]:=by simp[List.getD,hi]
               rw[e];exact hgood _ (List.getElem_mem hi)
             · have e:m.Nonces.getD q []=m.Nonces[q]:=by simp[List.getD,hq]
               rw[e];exact hn _ (List.getElem_mem hq)
             · have h:=ha i (by omega) (by omega)
               unfold okF at h
               simp only[Bool.or_eq_true,beq_iff_eq,Bool.and_eq_true,decide_eq_true_eq] at h
               omega
             · have h:=ha j (by omega) (by omega)
               unfold okF at h
               simp only[Bool.or_eq_true,beq_iff_eq,Bool.and_eq_true,decide_eq_true_eq,Bool.not_eq_true'] at h
               rcases h with h|⟨_,h⟩
               · omega
               · have hm:m.From.getD j 0∈m.From.take j:=by
                  rw[←h4,kM _ _ (by omega)]
                  exact List.mem_take_iff_getElem.2 ⟨i,by omega,rfl⟩
                 rw[List.elem_eq_mem] at h
                 exact absurd hm (of_decide_eq_false h)
           generalize (keyS c.Master m.Header.Epoch).1=key at*
           obtain⟨n,hnn⟩:∃n:Nat,m.Count=n:=⟨m.Count.toNat,by omega⟩
           have hnl:m.Nonces.length=n:=by omega
           have g:mkB m.Count m.Count=true:=by unfold mkB;rw[hroomI];simp;omega
           have g3:mkB 320 320=true:=by decide
           have hol:(kp key c.Left m.From m.Nonces b.1.Cells).length=n:=by simp[kp,hnl]
           have hall:∀y∈kp key c.Left m.From m.Nonces b.1.Cells,y.length=320:=fun y hy=>by
             obtain⟨q,hq,rfl⟩:=List.mem_map.1 hy
             exact(tX x (by simpa using hq) _ (Nat.le_refl _)).1
           have hinv:InvH ({m.Header with Left:=c.Left}:ab):=⟨⟨by show 0≤c.Left;omega,by show c.Left≤8;omega⟩,⟨by show 0≤m.Header.Round;omega,by show m.Header.Round≤_;omega⟩,⟨by show 0≤m.Header.Epoch;omega,by show m.Header.Epoch≤_;omega⟩⟩
           have hfits:nv ({m.Header with Left:=c.Left}:ab)=true:=by
             unfold nv
             simp only[Bool.and_eq_true,decide_eq_true_eq]
             exact⟨⟨⟨⟨⟨hinv.1.1,hinv.1.2⟩,hinv.2.1.1⟩,hinv.2.1.2⟩,hinv.2.2.1⟩,hinv.2.2.2⟩
           have hp:kO (⟨({m.Header with Left:=c.Left}:ab),kp key c.Left m.From m.Nonces b.1.Cells⟩:ao)=(wX (⟨({m.Header with Left:=c.Left}:ab),kp key c.Left m.From m.Nonces b.1.Cells⟩:ao),0):=by
             unfold kO
             have h1:decide (((kp key c.Left m.From m.Nonces b.1.Cells).length:Int)>256)=false:=decide_eq_false (by omega)
             have h2:((kp key c.Left m.From m.Nonces b.1.Cells).all fun c=>c.length==320)=true:=by
               rw[List.all_eq_true];intro y hy;rw[beq_iff_eq];exact hall y hy
             simp only[hfits,h1,h2,Bool.not_true,cond_false,cond_true]
           have hbytes:∀y∈kp key c.Left m.From m.Nonces b.1.Cells,aS y:=fun y hy=>by
             obtain⟨q,hq,rfl⟩:=List.mem_map.1 hy
             exact(tX x (by simpa using hq) _ (Nat.le_refl _)).2
           rw[cond_false,cond_false]
           refine⟨(wX (⟨({m.Header with Left:=c.Left}:ab),kp key c.Left m.From m.Nonces b.1.Cells⟩:ao),0,0),?_,?_⟩
           · rw[g,cond_true,hnn,Int.toNat_natCast]
             rw[aW (fun i=>((i:Int),part1 n (fun _=>List.replicate 320 (0:Int)) (fun _=>([]:List Int)) i)) 0 n (r:=(List.range n).map fun _=>List.replicate 320 (0:Int)) (by omega) ?_ ?_ ?_]
             · simp only[af]
               rw[aW (s0:=((0:Int),(List.range n).map fun _=>List.replicate 320 (0:Int))) (r:=(⟨({m.Header with Left:=c.Left}:ab),kp key c.Left m.From m.Nonces b.1.Cells⟩:ao)) (fun i=>((i:Int),(List.range n).map fun q=>fQ key c.Left m.From m.Nonces b.1.Cells q i)) 0 m.From.length (by omega) ?_ ?_ rfl]
               · simp only[af]
                 rw[wa,hp]
                 rfl
               · intro i _ hi
                 have hd:decide ((i:Int)<(m.From.length:Int))=true:=decide_eq_true (by omega)
                 simp only[hd,cond_true]
                 rw[ar (i:=i) rfl hi]
                 simp only[af]
                 rw[wrap64 (by omega)]
                 cases hneg:decide (m.From.getD i 0<0) with
                 |true=>
                  have hneg:=of_decide_eq_true hneg
                  simp only[cond_true,af]
                  rw[uU (g:=fun q=>fQ key c.Left m.From m.Nonces b.1.Cells q (i+1)) fun q _=>?_]
                  · rfl
                  · rw[fQ,show hitB c.Left m.From b.1.Cells q i=false by unfold hitB;rw[show(m.From.getD i 0==(q:Int))=false by rw[beq_eq_false_iff_ne];omega];rfl];rfl
                 |false=>
                  have hneg:=of_decide_eq_false hneg
                  obtain⟨q,hq⟩:∃q:Nat,m.From.getD i 0=q:=⟨(m.From.getD i 0).toNat,by omega⟩
                  have hqn:=x.hfr i hi
                  have hqn:q<m.Nonces.length:=by omega
                  have hic:i<b.1.Cells.length:=by omega
                  obtain⟨c1,c2⟩:=x.hcs i hic
                  obtain⟨n1,n2⟩:=x.hns q hqn
                  simp only[cond_false,hq]
                  rw[eQ (i:=q) [] rfl hqn]
                  simp only[af]
                  rw[eQ (i:=i) [] rfl hic]
                  simp only[af]
                  rw[uP hkl n1 c1 c2 x.hl]
                  simp only[af]
                  have hne:∀p,p≠q→hitB c.Left m.From b.1.Cells p i=false:=fun p hp=>by
                    unfold hitB;rw[hq,show((q:Int)==(p:Int))=false by rw[beq_eq_false_iff_ne];omega];rfl
                  have hme:hitB c.Left m.From b.1.Cells q i=(insS c.Left (b.1.Cells.getD i [])).2:=by
                    unfold hitB;rw[hq,beq_self_eq_true,Bool.true_and]
                  have ha2:(ansB key (m.Nonces.getD q []) c.Left (b.1.Cells.getD i [])).2=(insS c.Left (b.1.Cells.getD i [])).2:=by
                    unfold ansB;cases (insS c.Left (b.1.Cells.getD i [])).2<;>rfl
                  rw[ha2]
                  cases hy:(insS c.Left (b.1.Cells.getD i [])).2 with
                  | false =>
                    simp only[cond_false,af]
                    rw[uU (g:=fun q=>fQ key c.Left m.From m.Nonces b.1.Cells q (i+1)) fun p _=>?_]
                    · rfl
                    · rw[fQ]
                      by_cases e:p=q
                      · rw[e,hme,hy];rfl
                      · rw[hne p e];rfl
                  | true =>
                    simp only[cond_true]
                    rw[eQ (i:=q) [] rfl (by simp;omega)]
                    simp only[af,Int.toNat_natCast]
                    rw[Al (g:=fun q=>fQ key c.Left m.From m.Nonces b.1.Cells q (i+1)) (by omega) ?_ fun p _ e=>?_]
                    · rfl
                    · show _=fQ key c.Left m.From m.Nonces b.1.Cells q (i+1)
                      rw[fQ,hme,hy];rfl
                    · rw[fQ,hne p e];rfl
               · have hd:decide ((m.From.length:Int)<(m.From.length:Int))=false:=decide_eq_false (by omega)
                 simp only[hd,cond_false]
                 unfold kp
                 rw[hnl]
             · intro i _ hi
               have h1:decide ((i:Int)<((List.replicate n ([]:List Int)).length:Int))=true:=decide_eq_true (by simp;omega)
               simp only[h1,g3,cond_true]
               rw[eQ (i:=i) [] rfl (by rw[dQ];exact hi)]
               simp only[af]
               have t320:List.replicate (Int.toNat 320) (0:Int)=List.replicate 320 0:=rfl
               rw[wrap64 (by omega),Int.toNat_natCast,t320,cS (f:=fun _=>List.replicate 320 (0:Int)) hi rfl];rfl
             · have h1:decide ((n:Int)<((List.replicate n ([]:List Int)).length:Int))=false:=decide_eq_false (by simp)
               simp only[h1,cond_false]
               rw[fb]
             · rw[kQ]
               congr 1
               apply List.ext_getElem
               · simp
               · intro i h1 h2;simp
           · rw[aW (s0:=((0:Int),([]:List (List Int)))) (r:= .inl (⟨(⟨m.Header.Round,m.Header.Epoch,c.Left⟩:ab),kp key c.Left m.From m.Nonces b.1.Cells⟩:ao)) (fun j=>((j:Int),(List.range j).map fun q=>fQ key c.Left m.From m.Nonces b.1.Cells q m.From.length)) 0 n (by omega) ?_ ?_ rfl]
             · simp only[af]
               rw[yS _ hbytes]
               have hp':kO (⟨(⟨m.Header.Round,m.Header.Epoch,c.Left⟩:ab),kp key c.Left m.From m.Nonces b.1.Cells⟩:ao)=(wX (⟨(⟨m.Header.Round,m.Header.Epoch,c.Left⟩:ab),kp key c.Left m.From m.Nonces b.1.Cells⟩:ao),0):=hp
               rw[hp']
               rfl
             · intro q _ hqn
               have hq:q<m.Nonces.length:=by omega
               have hd:decide ((q:Int)<m.Count)=true:=decide_eq_true (by omega)
               simp only[hd,g3,cond_true]
               rw[aW (s0:=(List.replicate (Int.toNat 320) (0:Int),(0:Int))) (r:= .inl (fQ key c.Left m.From m.Nonces b.1.Cells q m.From.length)) (fun i=>(fQ key c.Left m.From m.Nonces b.1.Cells q i,(i:Int))) 0 m.From.length (by omega) ?_ ?_ rfl]
               · simp only[af]
                 rw[bK (by simp[room];omega)]
                 simp only[af]
                 rw[wrap64 (by omega),List.range_succ,List.map_append]
                 rfl
               · intro i _ hi
                 have hfl:=x.hfl
                 have hd:decide ((i:Int)<(m.From.length:Int))=true:=decide_eq_true (by omega)
                 simp only[hd,cond_true]
                 rw[ar (i:=i) rfl hi]
                 simp only[af]
                 cases hne:m.From.getD i 0 != (q:Int) with
                 |true=>
                  simp only[cond_true,af]
                  rw[wrap64 (by omega),fQ,show hitB c.Left m.From b.1.Cells q i=false by unfold hitB;rw[show(m.From.getD i 0==(q:Int))=false by simpa using hne];rfl];rfl
                 |false=>
                  have he:m.From.getD i 0=(q:Int):=by simpa using hne
                  have hic:i<b.1.Cells.length:=by omega
                  obtain⟨c1,c2⟩:=x.hcs i hic
                  obtain⟨n1,n2⟩:=x.hns q hq
                  have hme:hitB c.Left m.From b.1.Cells q i=(insS c.Left (b.1.Cells.getD i [])).2:=by unfold hitB;rw[he,beq_self_eq_true,Bool.true_and]
                  rw[cond_false,eQ (i:=i) [] rfl hic]
                  simp only[af]
                  rw[wm c1 c2 x.hl]
                  simp only[af]
                  cases hy:(insS c.Left (b.1.Cells.getD i [])).2 with
                  | false =>
                    simp only[Bool.not_false,cond_true,af]
                    rw[wrap64 (by omega),fQ,hme,hy];rfl
                  | true =>
                    obtain⟨i1,i2,_⟩:=ra c1 c2 x.hl hy
                    obtain⟨p1,p2,_⟩:=pM (key:=ownS key (m.Nonces.getD q [])) (nonce:=m.Nonces.getD q []) (x:=(insS c.Left (b.1.Cells.getD i [])).1) (oY _ _) n1 x.hl (mT x.hl) i1 i2
                    simp only[Bool.not_true,cond_false]
                    rw[eQ (i:=q) [] rfl hq]
                    simp only[af]
                    rw[wn hkl n1]
                    simp only[af]
                    rw[p1,zg x hi he]
                    simp only[bne_self_eq_false,cond_false,af,List.length_replicate]
                    have hov:over (List.replicate 320 (0:Int)) 0 320 (kq (ownS key (m.Nonces.getD q [])) (m.Nonces.getD q []) c.Left (insS c.Left (b.1.Cells.getD i [])).1).1=fQ key c.Left m.From m.Nonces b.1.Cells q (i+1):=by
                      rw[zf p2,fQ,hme,hy,cond_true]
                      unfold ansB
                      rw[hy];rfl
                    rw[wrap64 (by omega),hov];rfl
               · have hd:decide ((m.From.length:Int)<(m.From.length:Int))=false:=decide_eq_false (by omega)
                 simp only[hd,cond_false]
             · have hd:decide ((n:Int)<m.Count)=false:=decide_eq_false (by omega)
               simp only[hd,cond_false]
               unfold kp
               rw[hnl]
theorem uX (aw:eY=some true) (a:cg) (hg:ii a) (hbk:eh a≤1048576):cV a=some true:=by
 obtain⟨gc,gm,gr,_⟩:=hg
 have hb:aS a.Raw:=fun b h=>gr.1 b h
 have hlen:a.Raw.length<2^30:=by
  have h1:eh a=jN a.C+(jO a.M+(((a.Raw.map (bOne (α:=Int))).sum+1)+0)):=rfl
  have h2:(a.Raw.map (bOne (α:=Int))).sum=a.Raw.length:=by
   induction a.Raw with
   |nil=>rfl
   |cons x xs ih=>simp[bOne] at ih⊢;omega
  omega
 have hn:∀x∈a.M.Nonces,x.length=16∧aS x:=fun x hx=>⟨(gm.2.2.2.1.1 x hx).2,fun b hb=>(gm.2.2.2.1.1 x hx).1 b hb⟩
 obtain⟨r,h1,h2⟩:=wo (c:=a.C) (m:=a.M) hlen hb gc.2.1 hn
 unfold cV
 rw[aw]
 simp only[af,Bool.not_true,cond_false]
 rw[h1,h2]
 simp only[af,beq_self_eq_true,Bool.and_self]
end Go.Proofs.YtobbmodjdkcdcaaGreatDoor
