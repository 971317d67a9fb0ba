import Derived.Test.YtobbmodjdkcdcaaGreatDoorLawRound
set_option linter.unusedVariables false
set_option linter.unusedSimpArgs false
set_option linter.unusedSectionVars false
set_option maxRecDepth 20000
set_option maxHeartbeats 1000000
namespace Go.Proofs.YtobbmodjdkcdcaaGreatDoor
open Go Go.Sim
variable [Fu]
def iB (c:am) (t:List Int):aP×Int:=jH t c.Chunks
def dp (c:am) (t:List Int):Int×Int:=vU (iB c t).1.Noise c.Num c.Den c.Noise
def gW (c:am) (t:List Int):List (List Int)×Int:=mm (iB c t).1.Noise (dp c t).1 (IntKind.wrap .i64 (c.Left - 1))
def fo (c:am) (acc:List an) (t:List Int):List (List Int)×Int×Int:=
 bif (iB c t).2 != 0 then([],0,(iB c t).2) else
 bif (dp c t).2 != 0 then([],0,(dp c t).2) else
 bif decide ((IntKind.wrap .i64 ((acc.length:Int)+(dp c t).1))>256) then([],0,213) else
 bif (gW c t).2 != 0 then([],0,(gW c t).2) else(acc.map (·.Cell)++(gW c t).1,(dp c t).1,0)
theorem oY {c:am} {t:List Int} (hb:aS t):aS (iB c t).1.Noise:=by
 unfold iB jH
 cases decide (c.Chunks<1)||decide (c.Chunks>64) with
 |true=>exact fun b hb=>(by cases hb)
 |false=>
  cases decide ((t.length:Int)<18) with
  |true=>exact fun b hb=>(by cases hb)
  |false=>exact(kx hb _).1
theorem yN {ns:List Int} {k l:Int}:(mm ns k l).1.length≤16:=by
 unfold mm
 cases h:(((decide (k<0))||(decide (k>16)))||(decide (l<0)))||(decide (l>7)) with
 |true=>simp
 |false=>
  simp only[Bool.or_eq_false_iff,decide_eq_false_iff_not] at h
  cases decide ((ns.length:Int)<18) with
  |true=>simp
  |false=>simp;omega
theorem qm {α β:Type} (d:α) (f:α→β) (l:List α):(List.range l.length).map (fun i=>f (l.getD i d))=l.map f:=by
 apply List.ext_getElem (by simp)
 intro i h1 h2
 simp at h1
 simp[h1]
theorem ub {c:am} {acc:List an} {t:List Int} (hb:aS t) (ht:t.length<2^30) (ha:acc.length≤256):fS c acc t=some (fo c acc t):=by
 unfold fS fo
 rw[tz (by omega)]
 simp only[ae]
 show(bif (iB c t).2 != 0 then _ else _)=_
 cases h1:(iB c t).2 != 0 with
 |true=>rfl
 |false=>
  simp only[cond_false]
  rw[show jH t c.Chunks=iB c t from rfl,xo (oY hb)]
  simp only[ae]
  rw[show vU (iB c t).1.Noise c.Num c.Den c.Noise=dp c t from rfl]
  cases h2:(dp c t).2 != 0 with
  |true=>rfl
  |false=>
   simp only[cond_false]
   cases h3:decide ((IntKind.wrap .i64 ((acc.length:Int)+(dp c t).1))>256) with
   |true=>rfl
   |false=>
    simp only[cond_false]
    rw[xp (oY hb)]
    simp only[ae]
    rw[show mm (iB c t).1.Noise (dp c t).1 (IntKind.wrap .i64 (c.Left - 1))=gW c t from rfl]
    have hn:(gW c t).1.length≤16:=yN
    cases h4:(gW c t).2 != 0 with
    |true=>rfl
    |false=>
     simp only[cond_false]
     rw[xP (fun i=>(acc.getD i ⟨[],[]⟩).Cell) acc.length (r:=acc.map (·.Cell)) ?_ ?_]
     · simp only[ae]
       rw[bj (by rw[dT];simp;omega)]
       rfl
     · intro i hi
       have hd:decide ((i:Int)<(acc.length:Int))=true:=decide_eq_true (by omega)
       simp only[hd,cond_true]
       rw[dK hi]
       simp only[ae]
       rw[bj (by rw[dT];simp;omega)]
       simp only[ae]
       rw[wrap64 (by omega),←eb]
       simp[hi]
     · have hd:decide ((acc.length:Int)<(acc.length:Int))=false:=decide_eq_false (by omega)
       simp only[hd,cond_false]
       rw[qm ⟨[],[]⟩ (fun p:an=>p.Cell)]
theorem oa {t:List Int} {n c:Int} (hb:aS t):(cW t n c).1.length≤256:=by
 unfold cW
 cases hr:pe t n c with
 |inl e=>simp
 |inr r=>
  have ok:=xK hb hr
  have h1:=ok.pk
  have h2:=ok.n0
  show(ordL _ _ _ _).length≤256
  rw[xF];omega
def hZ (t:List Int) (c:Int) (xs:List (List Int)):List (List Int)×Int:=
 bif (cW t xs.length c).2 != 0 then([],(cW t xs.length c).2) else
 bif decide ((cW t xs.length c).1.length≠xs.length)|| !mn (cW t xs.length c).1 then([],110) else(pc (cW t xs.length c).1 xs,0)
theorem sY {t:List Int} {c:Int} {xs:List (List Int)} (hb:aS t) (hl:t.length<2^30):fD t c xs=some (hZ t c xs):=by
 unfold fD hZ
 rw[pf hb hl]
 simp only[ae]
 have:=oa (n:=(xs.length:Int)) (c:=c) hb
 cases (cW t xs.length c).2 != 0 with
 |true=>rfl
 |false=>
  simp only[cond_false]
  rw[yT (by omega)]
  simp only[ae]
theorem yO {c:am} {acc:List an} {t:List Int} (h:(fo c acc t).2.2=0):fo c acc t=((fo c acc t).1,(dp c t).1,0):=by
 unfold fo at h⊢
 cases h1:(iB c t).2 != 0 with
 |true=>rw[h1,cond_true] at h;simp only at h;rw[h] at h1;cases h1
 |false=>
  rw[h1,cond_false] at h
  cases h2:(dp c t).2 != 0 with
  |true=>rw[h2,cond_true] at h;simp only at h;rw[h] at h2;cases h2
  |false=>
   rw[h2,cond_false] at h
   cases h3:decide ((IntKind.wrap .i64 ((acc.length:Int)+(dp c t).1))>256) with
   |true=>rw[h3,cond_true] at h;cases h
   |false=>
    rw[h3,cond_false] at h
    cases h4:(gW c t).2 != 0 with
    |true=>rw[h4,cond_true] at h;simp only at h;rw[h] at h4;cases h4
    |false=>rfl
structure BB (c:am) (s:aq) (raw tape:List Int) (o:aG):Prop where
 ex:∃b a acc rep cells w2,
  cc raw=some (b,a,0)∧InvH b.Header∧b.Cells.length≤256∧Good320 b.Cells∧b.Header.Left=c.Left∧s.Next≤b.Header.Round∧
  el c s=some 0∧(da s.Window b.Header.Epoch c.Span).2=0∧pg c (da s.Window b.Header.Epoch c.Span).1 b=(acc,rep,0)∧
  fo c acc tape=(cells,(dp c tape).1,0)∧(hZ tape c.Chunks cells).2=0∧
  (∀t∈acc.map (·.Replay),t.length=16∧aS t)∧acc.length≤256∧
  addW (da s.Window b.Header.Epoch c.Span).1 b.Header.Epoch (acc.map (·.Replay)) c.Room=(w2,0)∧
  kV ⟨⟨b.Header.Round,b.Header.Epoch,IntKind.wrap .i64 (c.Left - 1)⟩,(hZ tape c.Chunks cells).1⟩=(o.Out,0)∧
  o=⟨o.Out,⟨IntKind.wrap .i64 (b.Header.Round+1),w2⟩,{{rep with Noise:=(dp c tape).1} with Out:=((hZ tape c.Chunks cells).1.length:Int)},0,0⟩
structure yP (s:aq) (raw:List Int) (o:aG):Prop where
 out:o.Out=[]
 st:o.State=s
 rep:o.Report=⟨0,0,0,0,0⟩
 err:o.Err≠0
 at_:0≤o.At∧o.At≤raw.length
theorem xm {c:am} {w:aa} {b:aE} {acc:List an} {rep:ai} (h:pg c w b=(acc,rep,0)) (hn:b.Cells.length≤256):
  dg c=some true∧(∀p∈acc,p.Replay.length=16∧aS p.Replay)∧(acc.length:Int)+rep.Malformed+rep.Replays=b.Cells.length∧0≤rep.Malformed∧0≤rep.Replays∧rep.In=b.Cells.length∧rep.Noise=0∧rep.Out=0:=by
 obtain⟨r,hr⟩:=lF c
 unfold pg at h
 rw[hr,Option.getD_some] at h
 cases r with
 |false=>simp at h
 |true=>
  rw[Bool.not_true,cond_false] at h
  cases hk:(keyS c.Master b.Header.Epoch).2 != 0 with
  |true=>
   rw[hk,cond_true] at h
   have e:(keyS c.Master b.Header.Epoch).2=0:=(Prod.mk.inj (Prod.mk.inj h).2).2
   rw[e] at hk;cases hk
  |false=>
   rw[hk,cond_false] at h
   obtain⟨e1,e2⟩:=Prod.mk.inj h
   obtain⟨e2,_⟩:=Prod.mk.inj e2
   have hc:=BN (P:=fun i=>li (keyS c.Master b.Header.Epoch).1 c.Left (b.Cells.getD i [])) (w:=w) b.Cells.length b.Cells.length (by omega)
   have ha:=BM (P:=fun i=>li (keyS c.Master b.Header.Epoch).1 c.Left (b.Cells.getD i [])) (w:=w) (fun i h=>xL h) b.Cells.length b.Cells.length
   rw[e1,e2] at hc
   rw[e1] at ha
   exact⟨hr,ha,hc⟩
theorem zw {z:Int} (h:z≠0):(z != 0)=true:=by simpa using h
theorem AC {c:am} {s:aq} {raw tape:List Int} (hw:dt s.Window) (hs:gInt .i64 c.Span) (hr:raw.length≤2^21) (hrb:aS raw) (ht:tape.length≤2^21) (htb:aS tape):
  ∃o,gw c s raw tape=some o∧(yP s raw o∨BB c s raw tape o):=by
 have ref:∀(e a:Int),e≠0→0≤a→a≤raw.length→∃o,(cm s e a).bind (fun y=>some y)=some o∧(yP s raw o∨BB c s raw tape o):=fun e a he h0 h1=>by
  rw[ud hw]
  exact⟨_,rfl,.inl ⟨rfl,rfl,rfl,he,h0,h1⟩⟩
 unfold gw ju
 obtain⟨ck,hck,hck0⟩:=ra (c:=c) hw
 rw[hck]
 simp only[ae]
 cases h1:ck != 0 with
 |true=>simp only[cond_true,ae,h1];exact ref _ _ (by simpa using h1) (by omega) (by omega)
 |false=>
  have ck0:ck=0:=by simpa using h1
  subst ck0
  obtain⟨rd,hrd,hrd0,hat0,hat1⟩:=qk (raw:=raw) (by omega) hrb
  simp only[cond_false]
  rw[hrd]
  simp only[ae]
  cases h2:rd.2.2 != 0 with
  |true=>simp only[cond_true,ae,h2];exact ref _ _ (by simpa using h2) hat0 hat1
  |false=>
   obtain⟨b,a,e⟩:=rd
   simp only at h2 hrd0 hat0 hat1
   have e0:e=0:=by simpa using h2
   subst e0
   obtain⟨hinv,hlen,h320⟩:=hrd0 rfl
   simp only[cond_false]
   cases h3:b.Header.Left != c.Left with
   |true=>simp only[cond_true,ae];exact ref 212 0 (by omega) (by omega) (by omega)
   |false=>
    have hleft:b.Header.Left=c.Left:=by simpa using h3
    simp only[cond_false]
    cases h4:decide (b.Header.Round<s.Next) with
    |true=>simp only[cond_true,ae];exact ref 211 0 (by omega) (by omega) (by omega)
    |false=>
     have hnext:s.Next≤b.Header.Round:=by have:=of_decide_eq_false h4;omega
     simp only[cond_false]
     have hgE:gInt .i64 b.Header.Epoch:=by
      show -9223372036854775808≤b.Header.Epoch∧b.Header.Epoch≤9223372036854775807
      have:=hinv.2.2;omega
     rw[rh hw hgE]
     simp only[ae]
     have hw1:=oh hw hgE (s:=c.Span)
     cases h5:(da s.Window b.Header.Epoch c.Span).2 != 0 with
     |true=>simp only[cond_true,ae];exact ref _ 0 (by simpa using h5) (by omega) (by omega)
     |false=>
      simp only[cond_false]
      rw[yV hw1.small (fun x hx=>(h320 x hx).2) (by omega)]
      simp only[ae]
      cases h6:(pg c (da s.Window b.Header.Epoch c.Span).1 b).2.2 != 0 with
      |true=>simp only[cond_true,ae];exact ref _ 0 (by simpa using h6) (by omega) (by omega)
      |false=>
       have h5':(da s.Window b.Header.Epoch c.Span).2=0:=by simpa using h5
       obtain⟨acc,rep,e,hsift⟩:∃acc rep e,pg c (da s.Window b.Header.Epoch c.Span).1 b=(acc,rep,e):=⟨_,_,_,rfl⟩
       rw[hsift] at h6
       have:e=0:=by simpa using h6
       subst this
       rw[hsift]
       obtain⟨q1,q2,q3,q4,q5,q6,q7,q8⟩:=xm hsift hlen
       have hacc:acc.length≤256:=by omega
       simp only[cond_false]
       rw[ub htb (by omega) hacc]
       simp only[ae]
       cases h7:(fo c acc tape).2.2 != 0 with
       |true=>simp only[cond_true,ae];exact ref _ 0 (by simpa using h7) (by omega) (by omega)
       |false=>
        have hcov:fo c acc tape=((fo c acc tape).1,(dp c tape).1,0):=yO (by simpa using h7)
        generalize (fo c acc tape).1=cells at hcov
        rw[hcov]
        simp only[cond_false]
        rw[sY htb (by omega)]
        simp only[ae]
        cases h8:(hZ tape c.Chunks cells).2 != 0 with
        |true=>simp only[cond_true,ae];exact ref _ 0 (by simpa using h8) (by omega) (by omega)
        |false=>
         simp only[cond_false]
         rw[xP (fun i=>(acc.getD i ⟨[],[]⟩).Replay) acc.length (r:=acc.map (·.Replay)) ?_ ?_]
         · simp only[ae]
           have htags:∀t∈acc.map (·.Replay),t.length=16∧aS t:=fun t h=>by
            obtain⟨p,hp,rfl⟩:=List.mem_map.1 h
            exact q2 p hp
           rw[yY hw1 hgE htags (by simp;omega)]
           simp only[ae]
           obtain⟨w2,e,hadd⟩:∃w2 e,addW (da s.Window b.Header.Epoch c.Span).1 b.Header.Epoch (acc.map (·.Replay)) c.Room=(w2,e):=⟨_,_,rfl⟩
           rw[hadd]
           cases h9:e != 0 with
           |true=>simp only[cond_true,ae];exact ref _ 0 (by simpa using h9) (by omega) (by omega)
           |false=>
            have:e=0:=by simpa using h9
            subst this
            simp only[cond_false]
            rw[yx]
            simp only[ae]
            obtain⟨out,e,hpk⟩:∃out e,kV ⟨⟨b.Header.Round,b.Header.Epoch,IntKind.wrap .i64 (c.Left - 1)⟩,(hZ tape c.Chunks cells).1⟩=(out,e):=⟨_,_,rfl⟩
            rw[hpk]
            cases h10:e != 0 with
            |true=>simp only[cond_true,ae];exact ref _ 0 (by simpa using h10) (by omega) (by omega)
            |false=>
             have:e=0:=by simpa using h10
             subst this
             simp only[cond_false]
             exact⟨_,rfl,.inr ⟨b,a,acc,rep,cells,w2,hrd,hinv,hlen,h320,hleft,hnext,hck,h5',hsift,hcov,by simpa using h8,htags,hacc,hadd,hpk,rfl⟩⟩
         · intro i hi
           have hd:decide ((i:Int)<(acc.length:Int))=true:=decide_eq_true (by omega)
           simp only[hd,cond_true]
           rw[dK hi]
           simp only[ae]
           rw[bj (by rw[dT];simp;omega)]
           simp only[ae]
           rw[wrap64 (by omega),←eb]
           simp[hi]
         · have hd:decide ((acc.length:Int)<(acc.length:Int))=false:=decide_eq_false (by omega)
           simp only[hd,cond_false]
           rw[qm ⟨[],[]⟩ (fun p:an=>p.Replay)]
end Go.Proofs.YtobbmodjdkcdcaaGreatDoor
