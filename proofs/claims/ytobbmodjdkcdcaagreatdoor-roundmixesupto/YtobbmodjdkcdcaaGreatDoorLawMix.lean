import Derived.Test.YtobbmodjdkcdcaaGreatDoorLawRound
set_option autoImplicit true
set_option relaxedAutoImplicit true
set_option linter.all false
set_option maxRecDepth 20000
set_option maxHeartbeats 1000000
namespace Go.Proofs.YtobbmodjdkcdcaaGreatDoor
open Go Go.Sim
open Go.IntKind (wrap)
variable [Fu]
def kM (c:aP) (t:List Int):bf×Int:=ii t c.Chunks
def jN (c:aP) (t:List Int):Int×Int:=sC (kM c t).1.Noise c.Num c.Den c.Noise
def mu (c:aP) (t:List Int):List (List Int)×Int:=oW (kM c t).1.Noise (jN c t).1 (wrap .i64 (c.Left - 1))
def ti (c:aP) (acc:List aH) (t:List Int):List (List Int)×Int×Int:=bif (kM c t).2 != 0 then([],0,(kM c t).2) else bif (jN c t).2 != 0 then([],0,(jN c t).2) else bif decide ((wrap .i64 ((acc.length:Int)+(jN c t).1))>256) then([],0,213) else bif (mu c t).2 != 0 then([],0,(mu c t).2) else(acc.map (·.Cell)++(mu c t).1,(jN c t).1,0)
theorem nk {c:aP} {t:List Int} (hb:aT t):aT (kM c t).1.Noise:=by unfold kM ii;cases decide (c.Chunks<1)||decide (c.Chunks>64) with|true=>exact λb hb=>(by cases hb)|false=>cases decide ((t.length:Int)<18) with|true=>exact λb hb=>(by cases hb)|false=>exact(lE hb _).1
theorem wL {ns:List Int} {k l:Int}:(oW ns k l).1.length≤16:=by unfold oW;cases h:(((decide (k<0))||(decide (k>16)))||(decide (l<0)))||(decide (l>7)) with|true=>simp|false=>simp only[Hz,Hy] at h;cases decide ((ns.length:Int)<18) with|true=>simp|false=>simp;omega
theorem rM {α β:Type} (d:α) (f:α→β) (l:List α):(List.range l.length).map (λi=>f (l.getD i d))=l.map f:=by apply IA (by simp);intro i h1 h2;simp at h1;simp[h1]
theorem yg {c:aP} {acc:List aH} {t:List Int} (hb:aT t) (ht:t.length<2^30) (ha:acc.length≤256):jC c acc t=some (ti c acc t):=by unfold jC ti;rw[w5 (by omega)];simp only[aB];show(bif (kM c t).2 != 0 then _ else _)=_;cases h1:(kM c t).2 != 0 with|true=>rfl|false=>simp only[Hm];rw[show ii t c.Chunks=kM c t from rfl,Bk (nk hb)];simp only[aB];rw[show sC (kM c t).1.Noise c.Num c.Den c.Noise=jN c t from rfl];cases h2:(jN c t).2 != 0 with|true=>rfl|false=>simp only[Hm];cases h3:decide ((wrap .i64 ((acc.length:Int)+(jN c t).1))>256) with|true=>rfl|false=>simp only[Hm];rw[Bl (nk hb)];simp only[aB];rw[show oW (kM c t).1.Noise (jN c t).1 (wrap .i64 (c.Left - 1))=mu c t from rfl];have hn:(mu c t).1.length≤16:=wL;cases h4:(mu c t).2 != 0 with|true=>rfl|false=>simp only[Hm];rw[pu (λi=>(acc.getD i ⟨[],[]⟩).Cell) acc.length (r:=acc.map (·.Cell)) ?_ ?_];simp only[aB];rw[aW (by rw[cR];simp;omega)];rfl;intro i hi;have hd:decide ((i:Int)<(acc.length:Int))=true:=Ho (by omega);simp only[hd,Hn];rw[cq hi];simp only[aB];rw[aW (by rw[cR];simp;omega)];simp only[aB];rw[wrap64 (by omega),←de];simp[hi];have hd:decide ((acc.length:Int)<(acc.length:Int))=false:=Hp (by omega);simp only[hd,Hm];rw[rM ⟨[],[]⟩ (λp:aH=>p.Cell)]
theorem CD {t:List Int} {n c:Int} (hb:aT t):(fb t n c).1.length≤256:=by unfold fb;cases hr:mq t n c with|inl e=>simp|inr r=>have ok:=q9 hb hr;have h1:=ok.pk;have h2:=ok.n0;show(RN _ _ _ _).length≤256;rw[wW];omega
def pi (t:List Int) (c:Int) (xs:List (List Int)):List (List Int)×Int:=bif (fb t xs.length c).2 != 0 then([],(fb t xs.length c).2) else bif decide ((fb t xs.length c).1.length≠xs.length)|| !vd (fb t xs.length c).1 then([],110) else(wQ (fb t xs.length c).1 xs,0)
theorem wM {t:List Int} {c:Int} {xs:List (List Int)} (hb:aT t) (hl:t.length<2^30):jh t c xs=some (pi t c xs):=by unfold jh pi;rw[Ai hb hl];simp only[aB];have:=CD (n:=(xs.length:Int)) (c:=c) hb;cases (fb t xs.length c).2 != 0 with|true=>rfl|false=>simp only[Hm];rw[CM (by omega)];simp only[aB]
structure Hl (c:aP) (s:aM) (raw tape:List Int) (o:ba):Prop where
 ex:∃b a acc rep cells w2,
  iu raw=some (b,a,0)∧SK b.Header∧b.Cells.length≤256∧Q6 b.Cells∧b.Header.Left=c.Left∧s.Next≤b.Header.Round∧
  gl c s=some 0∧(oy s.Window b.Header.Epoch c.Span).2=0∧ra c (oy s.Window b.Header.Epoch c.Span).1 b=(acc,rep,0)∧
  ti c acc tape=(cells,(jN c tape).1,0)∧(pi tape c.Chunks cells).2=0∧
  (∀t∈acc.map (·.Replay),t.length=16∧aT t)∧acc.length≤256∧
  Rg (oy s.Window b.Header.Epoch c.Span).1 b.Header.Epoch (acc.map (·.Replay)) c.Room=(w2,0)∧
  nP ⟨⟨b.Header.Round,b.Header.Epoch,wrap .i64 (c.Left - 1)⟩,(pi tape c.Chunks cells).1⟩=(o.Out,0)∧
  o=⟨o.Out,⟨wrap .i64 (b.Header.Round+1),w2⟩,{{rep with Noise:=(jN c tape).1} with Out:=((pi tape c.Chunks cells).1.length:Int)},0,0⟩
structure Hk (s:aM) (raw:List Int) (o:ba):Prop where
 out:o.Out=[]
 st:o.State=s
 rep:o.Report=⟨0,0,0,0,0⟩
 err:o.Err≠0
 at_:0≤o.At∧o.At≤raw.length
theorem Bg {c:aP} {w:aA} {b:aV} {acc:List aH} {a:aI} (h:ra c w b=(acc,a,0)) (hn:b.Cells.length≤256): eh c=some true∧(∀p∈acc,p.Replay.length=16∧aT p.Replay)∧(acc.length:Int)+a.Malformed+a.Replays=b.Cells.length∧0≤a.Malformed∧0≤a.Replays∧a.In=b.Cells.length∧a.Noise=0∧a.Out=0:=by obtain⟨r,hr⟩:=qd c;unfold ra at h;rw[hr,If] at h;cases r with|false=>simp at h|true=>rw[HU,Hm] at h;cases hk:(QI c.Master b.Header.Epoch).2 != 0 with|true=>rw[hk,Hn] at h;have e:(QI c.Master b.Header.Epoch).2=0:=(Prod.mk.inj (Prod.mk.inj h).2).2;rw[e] at hk;cases hk|false=>rw[hk,Hm] at h;obtain⟨e1,e2⟩:=Prod.mk.inj h;obtain⟨e2,_⟩:=Prod.mk.inj e2;have hc:=Fb (P:=λi=>jO (QI c.Master b.Header.Epoch).1 c.Left (b.Cells.getD i [])) (w:=w) b.Cells.length b.Cells.length (by omega);have ha:=Fa (P:=λi=>jO (QI c.Master b.Header.Epoch).1 c.Left (b.Cells.getD i [])) (w:=w) (λi h=>BG h) b.Cells.length b.Cells.length;rw[e1,e2] at hc;rw[e1] at ha;exact⟨hr,ha,hc⟩
end Go.Proofs.YtobbmodjdkcdcaaGreatDoor
