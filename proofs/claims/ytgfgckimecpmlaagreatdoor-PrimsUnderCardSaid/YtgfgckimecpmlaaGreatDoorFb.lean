/-
  Operations, further: fields, indexes, lengths, append, maps, functions.
-/
import Derived.Test.YtgfgckimecpmlaaGreatDoorFa
import Derived.Laws.StructEq
set_option linter.unusedSimpArgs false
set_option linter.unusedVariables false
namespace Fw
open Go
section
variable {P:Program}{a:Act}{o:Oper}{g:G}{w:World}{ρ:ba→V}{H:ai}{ns:Nat}
theorem yK{t:TypeId}{n:Nat}{b:Bool}{cs:Array Value}{us:List V}{v:V}{off:Nat}(hn:gp P t=some n)(hb:mw P t=some b)(hl:off+n≤us.length)(hv:aV g w us cs.toList)(hm:pj b ((us.drop off).take n)=some v)(h1:b=true∨n=1):∃x,(part t cs off).run P w=.ok x w∧RV g w v x:=by
 have dX:=(hv.drop off).take n;obtain⟨k1,k2⟩:=A5 hm dX;have hlen:=hv.length;simp at hlen;cases b with
  |true=>refine⟨_,?_,k1⟩;simp only[part,Sem.run_bind,sx hb,Result.andThen_ok,abv,da hn,Sem.run_pure,Sem.run_map];congr 2;apply adm;simp only[adl,ac1];rw[show off+n - off=n by omega]
  |false=>
   have V8:n=1:=by simpa using h1
   subst V8;have:off<cs.size:=by omega
   refine⟨cs[off],?_,?_⟩
   ·simp[part,sx hb,Array.getElem?_eq_getElem this]
   ·have e:(cs.toList.drop off).take 1=[cs[off]]:=by rw[abz (by simpa using this)];simp
    rw[e]at k1;simpa using k1
theorem QY{t:TypeId}{x:Operand}{x':ba}{f n:Nat}{b:Bool}{fs:Array Field}{fd:Field}{cs:List V}{v:V}(ho:o.op=.field t x f)(ht:P.underlying t=some (.struct fs))(hf:fs[f]? =some fd)(hn:gp P fd.type=some n)(hb:mw P fd.type=some b)(h1:b=true∨n=1)(hx:av x=some x')(e:ρ x'=.agg cs)(hl:fd.offset+n≤cs.length)(hm:pj b ((cs.drop fd.offset).take n)=some v)(ev:Ev ρ a g w)(hh:az g w H):Good P a o g w ns v H:=by have hv:=ev _ _ hx;rw[e]at hv;simp only[RV]at hv;obtain⟨z,h2,h3⟩:=hv;obtain⟨y,h4,h5⟩:=yK (P:=P) hn hb hl h3 hm h1;exact Good.val hh (by simp[execOp,ho,h2,Instr.field,run_underlying ht,hf,asAgg,h4]) h5
theorem Ku{t:TypeId}{x:Operand}{x':ba}{f off n:Nat}{fs:Array Field}{v:V}(ho:o.op=.fieldAddr t x f)(ht:P.underlying t=some (.struct fs))(hf:lu P fs f=some (off,n))(h0:0<n)(hx:av x=some x')(h:bw ρ H ns (.fQ off n x')=some (v,none))(ev:Ev ρ a g w)(hh:az g w H):Good P a o g w ns v H:=by
 have hv:=ev _ _ hx;simp only[lu,abF,aaE,aaF]at hf;obtain⟨fd,V9,s,hs,rfl,rfl⟩:=hf;have cB:=da (P:=P) hs w;have et:s≠0:=by omega
 have eL:∀aT off,a.eval x=.pointer (some ⟨aT,off,none⟩)→(execOp a.eval o).run P w=.ok (.value (.pointer (some ⟨aT,off+fd.offset,none⟩))) w:=by intro aT off he;simp[execOp,ho,he,Instr.fieldAt,run_underlying ht,V9,Instr.sureAddr,fieldPlace,cB,et,Addr.fL]
 simp only[bw]at h;split at h<;>simp only[aaC,aaF,reduceCtorEq]at h
 ·rename_i b hb q e;obtain⟨rfl,_⟩:=h;rw[e]at hv;simp only[RV]at hv;obtain⟨⟨⟨aT,off,h1⟩,hd⟩,h2⟩:=hv;refine Good.val hh (eL _ _ h1) ?_;simp only[RV];refine⟨⟨⟨_,_,rfl⟩,hd⟩,fun y hy=>?_ ⟩;obtain⟨Em,cp,cur,rfl,h3,h4⟩:=h2 y hy;refine⟨Em,cp,cur,rfl,fun ec=>?_,h4⟩;have:=h3 ec;rw[h1]at this;simp only[Value.pointer.injEq,aaC,Addr.mk.injEq,aco]at this;rw[this.1,this.2]
 ·rename_i cs e;obtain⟨rfl,_⟩:=h;rw[e]at hv;simp only[RV]at hv;obtain⟨aT,off,h1,h2,h3⟩:=hv;refine Good.val hh (eL _ _ h1) ?_;simp only[RV];refine⟨_,_,rfl,fun hn=>h2 (by rintro rfl;simp at hn),?_ ⟩;clear h1 eL h2 e;suffices h:∀(k:Nat)(ds:List D)(q:Nat),dx w (dq g w) aT q ds→dx w (dq g w) aT (q+k) (ds.drop k)∧dx w (dq g w) aT q (ds.take k)from(h s _ _ (h fd.offset _ _ h3).1).2;intro k ds;induction ds generalizing k with
   |nil=>intro q _;simp[dx]
   |cons d ds ih=>
    intro q hq;cases k with
     |zero=>simp only[abZ,List.take_zero,dx,aco,abN];simpa only[dx]using hq
     |succ k=>simp only[dx]at hq;obtain⟨h4,h5⟩:=ih k (q+1) hq.2;simp only[acX,acW,dx];refine⟨?_,hq.1,h5⟩;rw[show q+(k+1)=q+1+k by omega];exact h4
theorem dx.drop{im:Nat→Prop}{aT:Nat}:∀{ds:List D}{q:Nat}(k:Nat),dx w im aT q ds→dx w im aT (q+k) (ds.drop k)
 |[],_,k,_=>by simp[dx]
 |d::ds,q,0,h=>by simpa using h
 |d::ds,q,k+1,h=>by simp only[dx]at h;simp only[acX];rw[show q+(k+1)=q+1+k by omega];exact dx.drop k h.2
theorem Kv{t el:TypeId}{x i:Operand}{x' i':ba}{sz:Nat}{v:V}(ho:o.op=.indexAddr t x i)(ht:P.underlying t=some (.slice el))(hs:gp P el=some sz)(hx:av x=some x')(hi:av i=some i')(h:bw ρ H ns (.de sz x' i')=some (v,none))(ev:Ev ρ a g w)(hh:az g w H):Good P a o g w ns v H:=by
 have hv:=ev _ _ hx;simp only[bw]at h;split at h
 ·cases h
 ·rename_i j ej;obtain⟨k,hk⟩:=gq ej (ev _ _ hi);have eL:∀aT off len cap,a.eval x=.slice (some ⟨aT,off,none⟩) len cap→j<len→(execOp a.eval o).run P w=.ok (.value (.pointer (some ⟨aT,off+j*sz,none⟩))) w:=by
   intro aT off len cap he hj;have:((j:Int)<(len:Int)):=by omega
   simp[execOp,ho,he,Instr.indexAt,hk,asIntOf,run_underlying ht,hj,da hs,Addr.fL]
  split at h
  ·rename_i es e;split at h
   ·rename_i d hd;cases hb:Nat.beq d.length sz with
     |false=>rw[hb]at h;cases h
     |true=>
      rw[hb]at h;simp only[aaH,aaC,aaF]at h;obtain⟨rfl,_⟩:=h;rw[e]at hv;simp only[RV,Rd]at hv;have hj:j<es.length:=(aaK.1 hd).1;rcases hv with⟨rfl,_⟩|⟨aT,off,cap,uQ,h1,h2,h3,h4⟩
      ·simp at hj
      ·obtain⟨h5,h6⟩:=iO.get j h4 hd;have:uQ=sz:=by rw[←h5];exact aaI hb
       subst this;refine Good.val hh (eL _ _ _ _ h1 hj) ?_;simp only[RV];exact⟨_,_,rfl,fun _=>h3 (by rintro rfl;simp at hj),h6⟩
   ·cases h
  ·rename_i b hb off len uQ e;cases hc:(Nat.beq sz uQ&&Nat.blt j len&&ef H b hb)with
    |false=>rw[hc]at h;cases h
    |true=>
     rw[hc]at h;simp only[aaH,aaC,aaF]at h;obtain⟨rfl,_⟩:=h;simp only[aaD]at hc;have e1:=aaI hc.1.1;subst e1;have hj:j<len:=by have:=hc.1.2;rwa[aaT]at this
     rw[e]at hv;rcases j6 hc.2 hh with⟨aT,cp,hg⟩|⟨rfl,hg⟩
     ·obtain⟨cap,h1,h2,h3⟩:=RV.qq hv hg;refine Good.val hh (eL _ _ _ _ h1 hj) ?_;simp only[RV];refine⟨⟨⟨_,_,rfl⟩,RV.cR hv⟩,fun y hy=>?_ ⟩;rw[hg]at hy;simp only[aaC]at hy;subst hy;exact⟨_,_,_,rfl,fun _=>rfl,aaQ _⟩
     ·obtain⟨_,rfl,_⟩:=RV.vr hv hg;omega
  ·cases h
theorem G7{t el:TypeId}{x i:Operand}{x' i':ba}{len sz:Nat}{v:V}(ho:o.op=.indexAddr t x i)(ht:P.underlying t=some (.array len el))(hs:gp P el=some sz)(hx:av x=some x')(hi:av i=some i')(h:bw ρ H ns (.s7 len sz x' i')=some (v,none))(ev:Ev ρ a g w)(hh:az g w H):Good P a o g w ns v H:=by
 have hv:=ev _ _ hx;simp only[bw]at h;split at h
 ·cases h
 ·rename_i j ej;obtain⟨k,hk⟩:=gq ej (ev _ _ hi);cases hc:Nat.blt j len with
   |false=>rw[hc]at h;cases h
   |true=>
    rw[hc]at h;simp only[aaH]at h;have hj:j<len:=by rwa[aaT]at hc
    have eL:∀aT off,a.eval x=.pointer (some ⟨aT,off,none⟩)→(execOp a.eval o).run P w=.ok (.value (.pointer (some ⟨aT,off+j*sz,none⟩))) w:=by intro aT off he;simp[execOp,ho,he,Instr.indexAt,hk,asIntOf,run_underlying ht,hj,da hs,Addr.fL,Instr.sureAddr]
    split at h<;>simp only[aaC,aaF,reduceCtorEq]at h
    ·rename_i b hb q e;obtain⟨rfl,_⟩:=h;rw[e]at hv;simp only[RV]at hv;obtain⟨⟨⟨aT,off,h1⟩,hd⟩,h2⟩:=hv;refine Good.val hh (eL _ _ h1) ?_;simp only[RV];refine⟨⟨⟨_,_,rfl⟩,hd⟩,fun y hy=>?_ ⟩;obtain⟨Em,cp,cur,rfl,h3,h4⟩:=h2 y hy;refine⟨Em,cp,cur,rfl,fun ec=>?_,h4⟩;have:=h3 ec;rw[h1]at this;simp only[Value.pointer.injEq,aaC,Addr.mk.injEq,aco]at this;rw[this.1,this.2]
    ·rename_i cs e;obtain⟨rfl,_⟩:=h;rw[e]at hv;simp only[RV]at hv;obtain⟨aT,off,h1,h2,h3⟩:=hv;refine Good.val hh (eL _ _ h1) ?_;simp only[RV];exact⟨_,_,rfl,fun hn=>h2 (by rintro rfl;simp at hn),dx.drop _ h3⟩
theorem NL{t:TypeId}{x i:Operand}{x' i':ba}{v:V}(ho:o.op=.index t x i)(ht:P.underlying t=some .string)(hx:av x=some x')(hi:av i=some i')(h:bw ρ H ns (.gM x' i')=some (v,none))(ev:Ev ρ a g w)(hh:az g w H):Good P a o g w ns v H:=by
 have hv:=ev _ _ hx;simp only[bw]at h;split at h
 ·cases h
 ·rename_i j ej;obtain⟨k,hk⟩:=gq ej (ev _ _ hi);split at h
  ·rename_i s e;split at h
   ·rename_i b hb;simp only[aaC,aaF]at h;obtain⟨rfl,_⟩:=h;rw[e]at hv;obtain⟨bs,h1,rfl⟩:=RV.str hv;refine Good.val (x:=.int .u8 b.toNat) hh ?_ (RV.A4 _ _);have QZ:bs[j]? =some b:=by
     have bS:=(aaK.1 hb).1;have V':j<bs.size:=by simpa using bS
     rw[getElem?_pos bs j V'];have:=(aaK.1 hb).2;rw[←this];rfl
    simp[execOp,ho,h1,Instr.index,hk,asIntOf,run_underlying ht,QZ]
   ·cases h
  ·cases h
theorem NM{t el:TypeId}{x i:Operand}{x' i':ba}{len sz j:Nat}{b:Bool}{cs:List V}{v:V}(ho:o.op=.index t x i)(ht:P.underlying t=some (.array len el))(hs:gp P el=some sz)(hb:mw P el=some b)(h1:b=true∨sz=1)(hx:av x=some x')(hi:av i=some i')(ej:dC (ρ i')=some j)(e:ρ x'=.agg cs)(hj:j<len)(hl:len*sz≤cs.length)(hm:pj b ((cs.drop (j*sz)).take sz)=some v)(ev:Ev ρ a g w)(hh:az g w H):Good P a o g w ns v H:=by
 have hv:=ev _ _ hx;rw[e]at hv;simp only[RV]at hv;obtain⟨z,h2,h3⟩:=hv;obtain⟨k,hk⟩:=gq ej (ev _ _ hi);have hle:j*sz+sz≤cs.length:=by have:(j+1)*sz≤len*sz:=abg _ hj;rw[abu]at this;omega
 obtain⟨y,h4,h5⟩:=yK (P:=P) hs hb hle h3 hm h1;exact Good.val hh (by simp[execOp,ho,h2,Instr.index,hk,asIntOf,run_underlying ht,hj,da hs,h4]) h5
theorem Q1{x:Operand}{x':ba}{i:Nat}{vs:List V}{v:V}(ho:o.op=.extract x i)(hx:av x=some x')(e:ρ x'=.tuple vs)(hi:vs[i]? =some v)(ev:Ev ρ a g w)(hh:az g w H):Good P a o g w ns v H:=by
 have hv:=ev _ _ hx;rw[e]at hv;simp only[RV]at hv;obtain⟨z,h2,h3⟩:=hv;obtain⟨y,h4,h5⟩:=h3.get i hi;have Ve:z[i]? =some y:=by simpa using h4
 exact Good.val hh (by simp[execOp,ho,h2,Instr.extract,Ve]) h5
theorem iw(ev:Ev ρ a g w):∀{l:List Operand}{l':List ba},bK av l=some l'→aV g w (bh ρ l') (l.map a.eval)
 |[],l',h=>by simp[bK]at h;subst h;simp[bh,aV]
 |x::xs,l',h=>by
  simp only[bK]at h;split at h
  ·cases h
  ·rename_i y hy;split at h
   ·cases h
   ·rename_i ys GX;simp only[aaC]at h;subst h;simp only[bh,aaY,aV];exact⟨ev _ _ hy,iw ev GX⟩
theorem G8{f:FuncId}{p q:Array Operand}{p' q':List ba}(ho:o.op=.makeFunc (.func f) p q)(hp:bK av p.toList=some p')(hq:bK av q.toList=some q')(ev:Ev ρ a g w)(hh:az g w H):Good P a o g w ns (.func f (bh ρ p') (bh ρ q')) H:=by refine Good.val (x:=.func (.func f) (p.map a.eval) (q.map a.eval)) hh (by simp[execOp,ho,Instr.makeFunc]) ?_;simp only[RV];exact⟨_,_,rfl,by simpa using iw ev hp,by simpa using iw ev hq⟩
theorem Kw{t:TypeId}(ho:o.op=.makeMap t none)(hh:az g w H)(jt:js g ns):Good P a o g w ns (.map ns) (bn H ns (.map [])):=by
 have he:=cr.new hh jt (.map #[] 0) (.obj w.heap.size) rfl;have h2:az (g.add ns (.obj w.heap.size)) (w.alloc (.map #[] 0)) (bn H ns (.map [])):=by refine az.new hh jt _ _ _ rfl ?_;simp only[RB];exact⟨#[],0,bV _ _,rfl,by simp,by simp,rfl⟩
 refine⟨_,_,.value (.map (some w.heap.size)),?_,.inl ⟨_,rfl,?_⟩,h2,he,fun _ h=>h⟩
 ·simp[execOp,ho,Instr.makeMap]
 ·simp only[RV];refine⟨⟨rfl,.inr rfl⟩,fun x hx=>?_ ⟩;simp[G.add]at hx;subst hx;exact⟨_,rfl,rfl⟩
theorem Kx{t kt el:TypeId}{x:Operand}{x':ba}{v:V}{wr:Wr}(ho:o.op=.range t x)(ht:P.underlying t=some (.map kt el))(hx:av x=some x')(h:bw ρ H ns (.range true x')=some (v,wr))(ev:Ev ρ a g w)(hh:az g w H)(jt:js g ns):Good P a o g w ns v (aZ H wr):=by
 have hv:=ev _ _ hx;simp only[bw,aaH]at h;split at h
 ·rename_i b eb;rw[eb]at hv;simp only[RV]at hv;split at h
  ·rename_i es hg;simp only[aaC,aaF]at h;obtain⟨rfl,rfl⟩:=h;obtain⟨xb,oc⟩:=hh.back b _ hg;obtain⟨hd,y,hy,hr⟩:=hh.live b xb oc;rw[hg]at hy;simp only[aaC]at hy;subst hy;obtain⟨aT,rfl,yG⟩:=hv.2 xb oc;simp only[RB]at hr;obtain⟨bO,clock,h1,h2,h3,h4,h5⟩:=hr;have he:=cr.new hh jt (.mapIter (some aT) clock #[] clock) (.obj w.heap.size) rfl;have Vf:b≠ns:=by rintro rfl;exact jt hd
   have h2':az (g.add ns (.obj w.heap.size)) (w.alloc (.mapIter (some aT) clock #[] clock)) (bn H ns (.dK b es.length [])):=by refine az.new hh jt _ _ _ rfl ?_;simp only[RB];refine⟨aT,#[],by rw[←h2,←h5];exact bV _ _,rfl,.inl hd,fun x hx=>?_ ⟩;simp only[G.add,Vf,abT]at hx;rw[oc]at hx;simp only[aaC]at hx;exact hx.symm
   refine⟨_,_,.value (.pointer (some ⟨w.heap.size,0,none⟩)),?_,.inl ⟨_,rfl,?_⟩,h2',he,fun _ h=>h⟩
   ·simp[execOp,ho,Instr.range,run_underlying ht,yG,getObj,Sem.run,h1]
   ·simp only[RV];refine⟨⟨rfl,.inr rfl⟩,fun x hx=>?_ ⟩;simp[G.add]at hx;subst hx;exact⟨_,rfl,rfl⟩
  ·cases h
 ·cases h
theorem Kz{x:Operand}{x':ba}{v:V}{wr:Wr}(ho:o.op=.entry x)(hx:av x=some x')(h:bw ρ H ns (.entry x')=some (v,wr))(ev:Ev ρ a g w)(hh:az g w H):Good P a o g w ns v (aZ H wr):=by
 have hv:=ev _ _ hx;simp only[bw]at h;split at h
 ·rename_i b m eb;rw[eb]at hv;simp only[RV]at hv;split at h
  ·rename_i m' n seen En;split at h
   ·rename_i es hgm;cases hc:(Nat.beq m' m&&Nat.beq es.length n)with
     |false=>rw[hc]at h;cases h
     |true=>
      rw[hc]at h;simp only[aaH]at h;simp only[aaD]at hc;obtain rfl:=aaI hc.1;have hn:=aaI hc.2;split at h
      ·rename_i i hi;split at h
       ·rename_i k u hk;simp only[aaC,aaF]at h;obtain⟨rfl,rfl⟩:=h;obtain⟨xb,oc⟩:=hh.back b _ En;obtain⟨_,y,hy,hr⟩:=hh.live b xb oc;rw[En]at hy;simp only[aaC]at hy;subst hy;obtain⟨aT,rfl,yG⟩:=hv.2 xb oc;simp only[RB]at hr;obtain⟨mb,sa,k1,k2,k3,k4⟩:=hr;obtain⟨xm,Q3⟩:=hh.back m' _ hgm;obtain⟨_,y,hy,s_⟩:=hh.live m' xm Q3;rw[hgm]at hy;simp only[aaC]at hy;subst hy;obtain rfl:=k4 xm Q3;simp only[RB]at s_;obtain⟨bO,clock,m1,m2,m3,m4,m5⟩:=s_;obtain⟨z,z1,z2,z3,z4⟩:=m3 i k u hk;have Q4:sa.back?=some i:=by rw[←Array.getLast?_toList,k2];exact hi
        have Q5:bO.find? (fun e=>e.born==i)=some z:=by have hb:=m4 i z z1;rw[Array.find?_eq_some_iff_getElem];obtain⟨bS,hz⟩:=abG.1 z1;refine⟨by simp[hb],i,bS,hz,fun j hj=>?_ ⟩;have:=m4 j _ (Array.getElem?_eq_getElem (by omega));simp[this];omega
        have NN:(clock !=n)=false:=by simp;omega
        refine Good.val (x:=.tuple #[z.key,z.val]) hh ?_ ?_
        ·have hnp:clock=n:=by omega
         subst hnp;simp[execOp,ho,Instr.entry,yG,getObj,Sem.run,k1,Q4,m1,Q5]
        ·simp only[RV];exact⟨_,rfl,by simp only[aV,RV];exact⟨z3,z4,trivial⟩⟩
       ·cases h
      ·cases h
   ·cases h
  ·cases h
 ·cases h
theorem Eo{t:TypeId}{d:TypeDesc}{x:Operand}{x':ba}(ho:o.op=.makeInterface t x)(ht:P.underlying t=some d)(hd:∀m,d≠ .interface m)(hx:av x=some x')(ev:Ev ρ a g w)(hh:az g w H):Good P a o g w ns (.iface t (ρ x')) H:=by refine Good.val (x:=.iface t (a.eval x)) hh ?_ (by simp only[RV];exact⟨_,rfl,ev _ _ hx⟩);cases d<;>simp_all[execOp,Instr.makeInterface,run_underlying ht]
def G9(P:Program)(t:TypeId):ll→Prop| .str=>P.underlying t=some .string| .slice=>∃e,P.underlying t=some (.slice e)| .map=>∃k e,P.underlying t=some (.map k e)| .arr _=>False
theorem wS{u:V}{v:Value}{k:ll}{n:Nat}{t ty:TypeId}(h:gm H k u=some n)(hv:RV g w u v)(hh:az g w H)(hk:G9 P t k):(Builtin.len_ #[t] ty #[v]).run P w=.ok (goInt n) w:=by
 cases k with
  |str=>
   simp only[G9]at hk;cases u with
    |d x=>
     cases x with
      |str s=>simp only[gm,aaC]at h;subst h;obtain⟨b,rfl,rfl⟩:=RV.str hv;simp[Builtin.len_,run_underlying hk]
      |_=>simp[gm]at h
    |_=>simp[gm]at h
  |slice=>
   obtain⟨e,he⟩:=hk;cases u with
    |d x=>
     cases x with
      |list es=>simp only[gm,aaC]at h;subst h;simp only[RV,Rd]at hv;rcases hv with⟨rfl,rfl|⟨_,_,rfl⟩⟩|⟨aT,off,cap,sz,rfl,_⟩<;>simp[Builtin.len_,run_underlying he]
      |_=>simp[gm]at h
    |ab=>simp only[gm,aaC]at h;subst h;simp only[RV]at hv;subst hv;simp[Builtin.len_,run_underlying he]
    |sl b hb off len sz=>
     simp only[gm]at h;cases hl:ef H b hb with
      |false=>rw[hl]at h;cases h
      |true=>
       rw[hl]at h;simp only[aaH,aaC]at h;subst h;rcases j6 hl hh with⟨aT,cp,hg⟩|⟨rfl,hg⟩
       ·obtain⟨cap,rfl,_⟩:=RV.qq hv hg;simp[Builtin.len_,run_underlying he]
       ·obtain⟨_,rfl,_,rfl⟩:=RV.vr hv hg;simp[Builtin.len_,run_underlying he]
    |_=>simp[gm]at h
  |map=>
   obtain⟨kt,e,he⟩:=hk;cases u with
    |d x=>cases x<;>simp[gm]at h
    |mf=>simp only[gm,aaC]at h;subst h;simp only[RV]at hv;subst hv;simp[Builtin.len_,run_underlying he]
    |map b=>
     simp only[gm]at h;split at h
     ·rename_i es hg;simp only[aaC]at h;subst h;obtain⟨x,hx⟩:=hh.back b _ hg;obtain⟨_,y,hy,hr⟩:=hh.live b x hx;rw[hg]at hy;simp only[aaC]at hy;subst hy;simp only[RV]at hv;obtain⟨aT,rfl,rfl⟩:=hv.2 x hx;simp only[RB]at hr;obtain⟨bO,clock,h1,h2,_⟩:=hr;simp[Builtin.len_,run_underlying he,getObj,Sem.run,h1,h2]
     ·cases h
    |_=>simp[gm]at h
  |arr=>exact hk.elim
theorem vt{sz:Nat}{u:V}{v:Value}{xs:List V}(h:cF H sz u=some xs)(hv:RV g w u v)(hh:az g w H)(cB:0<sz):∃n vs,(Builtin.lenOf v).run P w=.ok n w∧(Builtin.firstCells sz n v).run P w=.ok vs.toArray w∧aV g w xs vs∧vs.length=n*sz:=by
 cases u with
  |ab=>simp only[cF,aaC]at h;subst h;simp only[RV]at hv;subst hv;exact⟨0,[],by simp[Builtin.lenOf],by simp[Builtin.firstCells],by simp[aV],by simp⟩
  |d x=>
   cases x with
    |list es=>
     simp only[cF]at h;cases hc:es.all (fun e=>Nat.beq e.length sz)with
      |false=>rw[hc]at h;cases h
      |true=>
       rw[hc]at h;simp only[aaH,aaC]at h;subst h;rcases RV.list hv (C4 hc)with⟨rfl,rfl|⟨_,_,rfl⟩⟩|⟨aT,off,cap,rfl,_,_,h4⟩
       ·exact⟨0,[],by simp[Builtin.lenOf],by simp[Builtin.firstCells],by simp[aV],by simp⟩
       ·exact⟨0,[],by simp[Builtin.lenOf],by simp[Builtin.firstCells,loadCells,loadCellsFrom],by simp[aV],by simp⟩
       ·have MH:∀(es:List (List D))(off:Nat),iO w (dq g w) aT off sz es→dx w (dq g w) aT off es.flatten:=by
         intro es;induction es with
          |nil=>intro off _;simp[dx]
          |cons e es ih=>
           intro off h;simp only[iO]at h;obtain⟨q1,q2,q3⟩:=h;have aZ:∀(ds Qf:List D)(q:Nat),dx w (dq g w) aT q ds→dx w (dq g w) aT (q+ds.length) Qf→dx w (dq g w) aT q (ds++Qf):=by
            intro ds Qf;induction ds with
             |nil=>intro q _ h;simpa using h
             |cons d ds ih=>intro q h1 h2;simp only[dx]at h1;simp only[abQ,dx];refine⟨h1.1,ih (q+1) h1.2 ?_⟩;rw[show q+1+ds.length=q+(d::ds).length by simp;omega];exact h2
           simp only[List.flatten_cons];exact aZ _ _ _ q2 (by rw[q1];exact ih _ q3)
        obtain⟨vs,k1,k2⟩:=dx.qo (MH es off h4);have hlen:vs.length=es.length*sz:=by
         have:=k1.length;simp only[aaW]at this;rw[←this];have V_:∀(es:List (List D)),es.all (fun e=>Nat.beq e.length sz)=true→es.flatten.length=es.length*sz:=by
          clear this k1 k2 vs hv h4 MH hc;intro es hc;induction es with
           |nil=>simp
           |cons e es ih=>simp only[aa4,aaD]at hc;simp only[List.flatten_cons,aa1,aaS];rw[ih hc.2,aaI hc.1,abu];omega
         exact V_ es hc
        have:=run_loadCells_list (P:=P) w ⟨aT,off,none⟩ vs (fun j x hj=>by rw[Addr.fL];exact k2 j x hj);exact⟨es.length,vs,by simp[Builtin.lenOf],by simp only[Builtin.firstCells];rw[←hlen];exact this,k1,hlen⟩
    |str s=>
     simp only[cF]at h;cases hq:Nat.beq sz 1 with
      |false=>rw[hq]at h;cases h
      |true=>
       rw[hq]at h;have:=aaI hq;subst this;simp only[aaH,aaC]at h;subst h;obtain⟨b,rfl,rfl⟩:=RV.str hv;refine⟨b.size,b.data.toList.map (fun x=>.int .u8 x.toNat),by simp[Builtin.lenOf],?_,?_,by simp⟩
       ·have e:b.extract 0 b.size=b:=by apply ByteArray.ext;rw[ByteArray.data_extract];apply adm;simp only[adl,ac1,abZ,ach];exact abS (by simp)
        simp only[Builtin.firstCells,e,Sem.run_pure];congr 1;apply adm;simp
       ·generalize b.data.toList=l;induction l with
         |nil=>simp[aV]
         |cons x l ih=>simp only[aaY,aV];exact⟨RV.A4 _ _,ih⟩
    |_=>simp[cF]at h
  |sl b hb off len uQ=>
   simp only[cF]at h;cases hq:Nat.beq sz uQ with
    |false=>rw[hq]at h;cases h
    |true=>
     have e1:=aaI hq;subst e1;rw[hq]at h;simp only[aaH]at h;cases hg:aE H b with
      |none=>simp[hg]at h
      |some y=>
       cases y with
        |cells cs=>
         simp only[hg]at h;cases hc:(Nat.beq cs.length hb&&Nat.ble (off+len*sz) hb)with
          |false=>rw[hc]at h;cases h
          |true=>
           rw[hc]at h;simp only[aaH,aaC]at h;subst h;simp only[aaD]at hc;have e2:=aaM hc.2;obtain⟨aT,cp,c,e,h1,h2,h3,h4,h5,h6,h7⟩:=lx hg hc.1 hh;obtain⟨cap,rfl,h8,h9⟩:=RV.qq hv h1;refine⟨len,((c.toList.take hb).drop off).take (len*sz),by simp[Builtin.lenOf],?_,(h7.drop off).take _,by simp;omega⟩;have hlen:(((c.toList.take hb).drop off).take (len*sz)).length=len*sz:=by simp;omega
           have:=run_loadCells_list (P:=P) w ⟨aT,off,none⟩ (((c.toList.take hb).drop off).take (len*sz)) (fun j x hj=>by
            rw[Addr.fL];rw[abd]at hj;split at hj
            ·rw[abA,abd]at hj;split at hj
             ·simp only[World.cell?,h5];simpa using hj
             ·cases hj
            ·cases hj)
           simp only[Builtin.firstCells];rw[hlen]at this;exact this
        |nil=>
         simp only[hg]at h;cases hc:Nat.beq len 0 with
          |false=>rw[hc]at h;cases h
          |true=>
           rw[hc]at h;simp only[aaH,aaC]at h;subst h;obtain⟨x,hx⟩:=hh.back b _ hg;obtain⟨_,y,hy,hr⟩:=hh.live b x hx;rw[hg]at hy;simp only[aaC]at hy;subst hy;cases x with
            |cells=>simp only[RB]at hr
            |obj=>simp only[RB]at hr
            |nil=>obtain⟨_,rfl,_,rfl⟩:=RV.vr hv hx;exact⟨0,[],by simp[Builtin.lenOf],by simp[Builtin.firstCells],by simp[aV],by simp⟩
        |_=>simp[hg]at h
  |_=>simp[cF]at h
end
end Fw
/-
  Operations, further: append.
-/
namespace Fw
open Go
section
variable {P:Program}{a:Act}{o:Oper}{g:G}{w:World}{ρ:ba→V}{H:ai}{ns:Nat}
theorem ly{t u e ty:TypeId}{i:TypeInfo}{base:Option Addr}{ew kQ n:Nat}{v:Value}{news:List Value}{w':World}(ht:P.underlying t=some (.slice e))(hu:(∃e2,P.underlying u=some (.slice e2))∨P.underlying u=some .string)(hi:P.info? e=some i)(hlen:(Builtin.lenOf v).run P w=.ok n w)(wT:(Builtin.firstCells i.size n v).run P w=.ok news.toArray w)(j7:ew+n≤kQ)(wO:∀a,base=some a→(storeCells (a.add (ew*i.size)) news).run P w=.ok () w')(hn:base=none→w'=w):(Builtin.append_ #[t,u] ty #[.slice base ew kQ,v]).run P w=.ok (.slice base (ew+n) kQ) w':=by
 cases base with
  |none=>have:=hn rfl;subst this;rcases hu with⟨e2,hu⟩|hu<;>simp[Builtin.append_,run_underlying ht,run_underlying hu,Go.sizeOf,typeInfo,hi,hlen,j7,wT]
  |some b=>have:=wO b rfl;rcases hu with⟨e2,hu⟩|hu<;>simp[Builtin.append_,run_underlying ht,run_underlying hu,Go.sizeOf,typeInfo,hi,hlen,j7,wT,this]
theorem wU{t u e ty:TypeId}{i:TypeInfo}{z:Value}{base:Option Addr}{ew kQ n:Nat}{v:Value}{wV news:List Value}(ht:P.underlying t=some (.slice e))(hu:(∃e2,P.underlying u=some (.slice e2))∨P.underlying u=some .string)(hi:P.info? e=some i)(hz:i.zero=some z)(hlen:(Builtin.lenOf v).run P w=.ok n w)(wT:(Builtin.firstCells i.size n v).run P w.drew=.ok news.toArray w.drew)(yL:(Builtin.firstCells i.size ew (.slice base ew kQ)).run P w.drew=.ok wV.toArray w.drew)(hg:kQ<ew+n)(Wa:((ew+n:Nat):Int)≤9223372036854775807)(NO:Builtin.nextslicecap (ew+n) kQ*i.bytes≤281474976710656):(Builtin.append_ #[t,u] ty #[.slice base ew kQ,v]).run P w=.ok (.slice (some ⟨w.heap.size,0,none⟩) (ew+n) (grownCap w (ew+n) kQ e)) (w.drew.alloc (.cells (wV.toArray++news.toArray++Builtin.zeroCells z.cells (grownCap w (ew+n) kQ e - (ew+n))) e)):=by
 have hn:¬(ew+n≤kQ):=by omega
 have Wb:¬(9223372036854775807<((ew:Int)+(n:Int))):=by omega
 have Wc:¬(281474976710656<Builtin.nextslicecap (ew+n) kQ*i.bytes):=by omega
 rcases hu with⟨e2,hu⟩|hu<;>simp[Builtin.append_,run_underlying ht,run_underlying hu,Go.sizeOf,typeInfo,zeroValue,hi,hz,hlen,hn,Wb,Wc,Question.forced,wT,yL,newRow,grownCap]<;>(congr 2;apply adm;simp)
theorem j8(g:G)(w:World):cr g w g w.drew:=⟨rfl,rfl,rfl,aaQ _,fun _ h=>⟨h,rfl⟩,fun _ h=>h,fun _ _=>GB.step.refl _,rfl,fun _ _=>rfl⟩
theorem az.drew(hh:az g w H):az g w.drew H:=hh.ext (j8 g w) (fun _ _ _ _ _=>rfl)
theorem aV.wW{us:List V}{n m:Nat}(h:n=m)(hv:us.length=n):us.length=m:=by omega
theorem G'{t u e ty:TypeId}{i:TypeInfo}{zs:List V}{x y:Operand}{x' y':ba}{xs:List V}{v:V}{wr:Wr}(ho:o.op=.call {callee:=.builtin .append,args:= #[x,y],argTypes:= #[t,u]})(Q6:o.type=ty)(ht:P.underlying t=some (.slice e))(hu:(∃e2,P.underlying u=some (.slice e2))∨P.underlying u=some .string)(hi:P.info? e=some i)(hz:dP P e=some zs)(h0:0<i.size)(V3:zs.length=i.size)(hx:av x=some x')(hy:av y=some y')(hs:cF H i.size (ρ y')=some xs)(ha:cM H ns i.size i.bytes (ρ x') xs=some (v,wr))(ev:Ev ρ a g w)(hh:az g w H)(jt:js g ns):Good P a o g w ns v (aZ H wr):=by
 have cK:=ev _ _ hx;have dW:=ev _ _ hy;simp only[dP,abF]at hz;obtain⟨z,⟨i',lv,yF⟩,hm⟩:=hz;rw[hi]at lv;simp only[aaC]at lv;subst lv;have MI:z.cells.size=i.size:=by have:=cV hm;simp at this;omega
 obtain⟨n,news,f1,f2,f3,f4⟩:=vt (P:=P) hs dW hh h0;obtain⟨n',iU,f1',f2',Qg,f4'⟩:=vt (P:=P) hs (RV.ext (j8 g w) _ _ dW) hh.drew h0;have hnn:n'=n:=by
  have e1:=Qg.length;have e2:=f3.length;have:n'*i.size=n*i.size:=by omega
  exact Nat.eq_of_mul_eq_mul_right h0 this
 subst hnn;have yv:xs.length=n'*i.size:=by rw[f3.length,f4]
 have u3:xs.length / i.size=n':=by rw[yv];exact aci _ h0
 unfold cM at ha;cases hb0:Nat.beq i.size 0 with
  |true=>rw[hb0]at ha;cases ha
  |false=>
   rw[hb0]at ha;simp only[aaX]at ha;cases C3:Nat.beq (xs.length%i.size) 0 with
    |false=>rw[C3]at ha;cases ha
    |true=>
     rw[C3]at ha;simp only[abp,aaX]at ha;cases eF:xs.all dO with
      |false=>rw[eF]at ha;cases ha
      |true=>
       rw[eF]at ha;simp only[abp,aaX]at ha;have Ep:∀(vx:Value)(r:Value)(w':World),a.eval x=vx→(Builtin.append_ #[t,u] ty #[vx,a.eval y]).run P w=.ok r w'→(execOp a.eval o).run P w=.ok (.value r) w':=by intro vx r w' e1 e2;subst Q6;simp[execOp,ho,resolve,invoke,builtin,e1,e2]
       have G_:∀(NP:Option Addr)(ew kQ:Nat)(wV:List Value)(KA:List V),a.eval x=.slice NP ew kQ→aV g w KA wV→KA.all dO=true→wV.length=ew*i.size→(Builtin.firstCells i.size ew (.slice NP ew kQ)).run P w.drew=.ok wV.toArray w.drew→kQ<ew+n'→((KA.length+xs.length)*(i.bytes+1)≤cy)→∃w' cap,(execOp a.eval o).run P w=.ok (.value (.slice (some ⟨w.heap.size,0,none⟩) (ew+n') cap)) w'∧w'=w.drew.alloc (.cells (wV.toArray++iU.toArray++Builtin.zeroCells z.cells (cap - (ew+n'))) e)∧ew+n'≤cap∧(wV.toArray++iU.toArray++Builtin.zeroCells z.cells (cap - (ew+n'))).size=cap*i.size:=by
        intro NP ew kQ wV KA e1 e2 e3 e4 e5 e6 e7;have hol:KA.length=ew*i.size:=by rw[e2.length,e4]
        have Q7:(ew+n')*i.size=KA.length+xs.length:=by rw[abu];omega
        have hle:ew+n'≤KA.length+xs.length:=by rw[←Q7];exact ac9 _ h0
        have hb:(ew+n')*i.bytes≤140737488355328:=by
         have e1:(ew+n')*i.bytes≤(KA.length+xs.length)*(i.bytes+1):=Nat.mul_le_mul hle (by omega);have e2:cy≤140737488355328:=by decide
         omega
        have Wa:ew+n'≤140737488355328:=by
         have e1:ew+n'≤(KA.length+xs.length)*(i.bytes+1):=aby hle (ac9 _ (by omega));have e2:cy≤140737488355328:=by decide
         omega
        have hr:=wU (ty:=ty) ht hu hi yF f1 f2' e5 e6 (by omega) (growslice_fits e6 hb);refine⟨_,_,Ep _ _ _ e1 hr,rfl,grownCap_ge _ _ _ _,?_⟩;have Qh:=grownCap_ge w (ew+n') kQ e;simp only[Array.size_append,List.size_toArray,size_zeroCells,MI,e4,f4',←abu];congr 1;omega
       split at ha
       ·rename_i ex;rw[ex]at cK;simp only[RV]at cK;split at ha
        ·simp only[aaC,aaF]at ha;obtain⟨rfl,rfl⟩:=ha;have NQ:n'=0:=by
          have Wd:n'*i.size=0:=by rw[←yv];rfl
          rcases ack.1 Wd with h|h<;>omega
         subst NQ;have hr:=ly (ty:=ty) (base:=none) (ew:=0) (kQ:=0) ht hu hi f1 f2 (aaQ _) (fun a h=>by cases h) (fun _=>rfl);exact Good.val (x:=.slice none 0 0) hh (Ep _ _ _ cK hr) (by simp only[RV])
        ·rename_i et;cases hc:Nat.ble (xs.length*(i.bytes+1)) cy with
          |false=>rw[hc]at ha;cases ha
          |true=>
           rw[hc]at ha;simp only[aaH,aaC,aaF]at ha;obtain⟨rfl,rfl⟩:=ha;have nN:0<n':=by
            rcases Nat.eq_zero_or_pos n' with h|h
            ·subst h;simp at yv;exact absurd yv et
            ·exact h
           obtain⟨w',cap,k1,rfl,k3,k4⟩:=G_ none 0 0 [] [] cK (by simp[aV]) rfl (by simp) (by simp[Builtin.firstCells]) (by omega) (by simpa using aaM hc);have he:=cr.new (w:=w.drew) hh.drew jt (.cells (([]:List Value).toArray++iU.toArray++Builtin.zeroCells z.cells (cap - (0+n'))) e) (.cells w.heap.size (cap*i.size) xs.length) rfl;refine⟨_,_,_,k1,.inl ⟨_,rfl,?_⟩,az.new hh.drew jt _ _ _ rfl ?_,(j8 g w).trans he,fun _ h=>h⟩
           ·rw[u3,aaU];refine RV.A6 (cp:=cap*i.size) (.inr rfl) (by simp[G.add]) (by omega) (by omega)
           ·simp only[RB];refine⟨trivial,eF,by rw[yv];exact abg _ (by omega),_,e,bV _ _,by rw[k4];exact aaQ _,?_ ⟩;have:((([]:List Value).toArray++iU.toArray++Builtin.zeroCells z.cells (cap - (0+n'))).toList).take xs.length=iU:=by simp only[abV,ab4,acy];rw[show xs.length=iU.length by rw[Qg.length],ac8]
            rw[this];exact aV.ext he _ _ Qg
       ·rename_i b hb off len uQ ex;cases hq:Nat.beq i.size uQ with
         |false=>rw[hq]at ha;cases ha
         |true=>
          have e1:=aaI hq;rw[hq]at ha;simp only[aaH]at ha;rw[ex]at cK;rw[←e1]at cK;split at ha
          ·rename_i cs hg;cases hc:(Nat.beq cs.length hb&&Nat.beq off 0&&Nat.beq (len*i.size) hb&&Nat.ble ((hb+xs.length)*(i.bytes+1)) cy)with
            |false=>rw[hc]at ha;cases ha
            |true=>
             rw[hc]at ha;simp only[aaH,aaC,aaF]at ha;obtain⟨rfl,rfl⟩:=ha;simp only[aaD]at hc;have e2:=aaI hc.1.1.2;subst e2;have e3:=aaI hc.1.2;obtain⟨aT,cp,c,ce,NR,h2,h3,h4,h5,h6,h7⟩:=lx hg hc.1.1.1 hh;obtain⟨cap,h8,h9,h10⟩:=RV.qq cK NR;have gY:=RV.cR cK;by_cases j7:len+n'≤cap
             ·have NO:hb+xs.length≤cp:=by have:(len+n')*i.size≤cap*i.size:=abg _ j7;rw[abu]at this;omega
              have wO:=run_storeCells_at P aT (len*i.size) ce news 0 c w h5 (by rw[f4];simp;omega) (aV.one eF f3);simp only[abN]at wO;rw[←j5 _ _ _ (by rw[f4];simp;omega),e3]at wO;have hr:=ly (ty:=ty) (base:=some ⟨aT,0,none⟩) ht hu hi f1 f2 j7 (fun q hq=>by simp only[aaC]at hq;subst hq;rw[Addr.fL,aaU,e3];exact wO) (fun h=>by cases h);have hw:∀j,j≠aT→(w.setRow aT (putCells c.toList hb news).toArray).heap[j]? =w.heap[j]? :=fun j hj=>setRow_other w aT j _ hj
              have yM:GB.step (some (.cells aT cp hb)) (some (.cells aT cp (hb+xs.length))):=by
               by_cases hz:xs.length=0
               ·left;rw[hz];rfl
               ·right;exact⟨_,_,_,rfl,by omega⟩
              have MJ:∀j,j<w.heap.size→some j≠some aT→(w.setRow aT (putCells c.toList hb news).toArray).heap[j]? =w.heap[j]? :=fun j _ hj=>hw j (fun e=>hj (by rw[e]))
              have he:cr g w (g.set b (.cells aT cp (hb+xs.length))) (w.setRow aT (putCells c.toList hb news).toArray):=cr.grow (hh.ND NR rfl) NR rfl yM (.inl rfl) rfl rfl rfl (by simp) MJ;refine⟨_,_,_,Ep _ _ _ h8 hr,.inl ⟨_,rfl,?_⟩,az.grow (x':=.cells aT cp (hb+xs.length)) hh _ NR rfl (.inl rfl) he MJ ?_,he,fun _ h=>.inl h⟩
              ·rw[u3];refine RV.A6 (cp:=cp) gY (by simp[G.set]) (by omega) (by omega)
              ·simp only[RB];have nM:∀(l:List Value)(i:Nat)(vs:List Value),(putCells l i vs).length=l.length:=by
                intro l i vs;induction vs generalizing l i with
                 |nil=>rfl
                 |cons v vs ih=>simp[putCells,ih]
               refine⟨by simp;omega,by simp only[ac2,h2,eF,abk],by simp;omega,_,ce,setRow_heap w aT c _ ce _ h5,by simp[nM];omega,?_ ⟩;have e5:(putCells c.toList hb news).take (cs++xs).length=c.toList.take hb++news:=by
                rw[j5 _ _ _ (by rw[f4];simp;omega)];have:(cs++xs).length=(c.toList.take hb++news).length:=by simp[f4,yv];omega
                rw[this,ac8]
               rw[acy,e5];exact aV.append (aV.ext he _ _ h7) (aV.ext he _ _ f3)
             ·have yL:(Builtin.firstCells i.size len (.slice (some ⟨aT,0,none⟩) len cap)).run P w.drew=.ok (c.toList.take hb).toArray w.drew:=by
               have hl:(c.toList.take hb).length=len*i.size:=by simp;omega
               have:=run_loadCells_list (P:=P) w.drew ⟨aT,0,none⟩ (c.toList.take hb) (fun j x hj=>by
                rw[Addr.fL,aaU];rw[abd]at hj;split at hj
                ·have Vc:w.drew.heap[aT]? =some (.cells c ce (0,0)):=h5;simp only[World.cell?,Vc];simpa using hj
                ·cases hj)
               rw[hl]at this;simpa[Builtin.firstCells]using this
              obtain⟨w',A7,k1,rfl,k3,k4⟩:=G_ (some ⟨aT,0,none⟩) len cap (c.toList.take hb) cs h8 h7 h2 (by simp;omega) yL (by omega) (by rw[h3];exact aaM hc.2);have yM:GB.step (some (.cells aT cp hb)) (some (.cells w.heap.size (A7*i.size) (hb+xs.length))):=by
               right;refine⟨_,_,_,rfl,?_⟩;have:0<xs.length:=by rw[yv];exact Nat.mul_pos (by omega) h0
               omega
              have MJ:∀j,j<w.drew.heap.size→some j≠some aT→(w.drew.alloc (.cells ((c.toList.take hb).toArray++iU.toArray++Builtin.zeroCells z.cells (A7 - (len+n'))) e)).heap[j]? =w.drew.heap[j]? :=fun j hj _=>cS _ _ hj
              have he:cr g w.drew (g.set b (.cells w.heap.size (A7*i.size) (hb+xs.length))) (w.drew.alloc (.cells ((c.toList.take hb).toArray++iU.toArray++Builtin.zeroCells z.cells (A7 - (len+n'))) e)):=cr.grow (hh.drew.ND NR rfl) NR rfl yM (.inr ⟨_,rfl,aaQ _⟩) rfl rfl rfl (by simp) MJ;refine⟨_,_,_,k1,.inl ⟨_,rfl,?_⟩,az.grow hh.drew _ NR rfl (.inr ⟨_,rfl,aaQ _⟩) he MJ ?_,(j8 g w).trans he,fun _ h=>.inl h⟩
              ·rw[u3];refine RV.A6 (cp:=A7*i.size) gY (by simp[G.set]) (by omega) (by omega)
              ·simp only[RB];refine⟨by simp;omega,by simp only[ac2,h2,eF,abk],?_,_,e,bV _ _,by rw[k4];exact aaQ _,?_ ⟩
               ·have:(len+n')*i.size≤A7*i.size:=abg _ k3;rw[abu]at this;simp;omega
               ·have e5:((c.toList.take hb).toArray++iU.toArray++Builtin.zeroCells z.cells (A7 - (len+n'))).toList.take (cs++xs).length=c.toList.take hb++iU:=by
                 simp only[ab4,acy];have:(cs++xs).length=(c.toList.take hb++iU).length:=by simp[f4',yv];omega
                 rw[this,ac8]
                rw[e5];exact aV.append (aV.ext ((j8 g w).trans he) _ _ h7) (aV.ext he _ _ Qg)
          ·rename_i hg;cases hc:(Nat.beq hb 0&&Nat.beq off 0&&Nat.beq len 0)with
            |false=>rw[hc]at ha;cases ha
            |true=>
             rw[hc]at ha;simp only[aaH]at ha;simp only[aaD]at hc;have q1:=aaI hc.1.1;have q2:=aaI hc.1.2;have q3:=aaI hc.2;subst q1;subst q2;subst q3;obtain⟨xb,oc⟩:=hh.back b _ hg;obtain⟨_,yb,We,hr⟩:=hh.live b xb oc;rw[hg]at We;simp only[aaC]at We;subst We;cases xb with
              |cells=>simp only[RB]at hr
              |obj=>simp only[RB]at hr
              |nil=>
               have gY:=RV.cR cK;obtain⟨_,_,_,Wf⟩:=RV.vr cK oc;split at ha
               ·simp only[aaC,aaF]at ha;obtain⟨rfl,rfl⟩:=ha;have NQ:n'=0:=by
                 have Wd:n'*i.size=0:=by rw[←yv];rfl
                 rcases ack.1 Wd with h|h<;>omega
                subst NQ;have hrr:=ly (ty:=ty) (base:=none) (ew:=0) (kQ:=0) ht hu hi f1 f2 (aaQ _) (fun a h=>by cases h) (fun _=>rfl);refine Good.val (x:=.slice none 0 0) hh (Ep _ _ _ Wf hrr) ?_;rw[Wf]at cK;rw[e1]at cK;rw[ex];exact cK
               ·rename_i et;cases kz:Nat.ble (xs.length*(i.bytes+1)) cy with
                 |false=>rw[kz]at ha;cases ha
                 |true=>
                  rw[kz]at ha;simp only[aaH,aaC,aaF]at ha;obtain⟨rfl,rfl⟩:=ha;have nN:0<n':=by
                   rcases Nat.eq_zero_or_pos n' with h|h
                   ·subst h;simp at yv;exact absurd yv et
                   ·exact h
                  obtain⟨w',cap,k1,rfl,k3,k4⟩:=G_ none 0 0 [] [] Wf (by simp[aV]) rfl (by simp) (by simp[Builtin.firstCells]) (by omega) (by simpa using aaM kz);have Q8:0<xs.length:=by rw[yv];exact Nat.mul_pos nN h0
                  have MJ:∀j,j<w.drew.heap.size→some j≠none→(w.drew.alloc (.cells (([]:List Value).toArray++iU.toArray++Builtin.zeroCells z.cells (cap - (0+n'))) e)).heap[j]? =w.drew.heap[j]? :=fun j hj _=>cS _ _ hj
                  have he:cr g w.drew (g.set b (.cells w.heap.size (cap*i.size) xs.length)) (w.drew.alloc (.cells (([]:List Value).toArray++iU.toArray++Builtin.zeroCells z.cells (cap - (0+n'))) e)):=cr.grow (hh.drew.ND oc rfl) oc rfl (.inr ⟨_,_,_,rfl,Q8⟩) (.inr ⟨_,rfl,aaQ _⟩) rfl rfl rfl (by simp) MJ;refine⟨_,_,_,k1,.inl ⟨_,rfl,?_⟩,az.grow hh.drew _ oc rfl (.inr ⟨_,rfl,aaQ _⟩) he MJ ?_,(j8 g w).trans he,fun _ h=>.inl h⟩
                  ·rw[u3,aaU];refine RV.A6 (cp:=cap*i.size) gY (by simp[G.set]) (by omega) (by omega)
                  ·simp only[RB];refine⟨trivial,eF,by rw[yv];exact abg _ (by omega),_,e,bV _ _,by rw[k4];exact aaQ _,?_ ⟩;have:((([]:List Value).toArray++iU.toArray++Builtin.zeroCells z.cells (cap - (0+n'))).toList).take xs.length=iU:=by simp only[abV,ab4,acy];rw[show xs.length=iU.length by rw[Qg.length],ac8]
                   rw[this];exact aV.ext he _ _ Qg
          ·cases ha
       ·cases ha
end
end Fw
/-
  Operations, further: maps, min and max; all together.
-/
namespace Fw
open Go
section
variable {P:Program}{a:Act}{o:Oper}{g:G}{w:World}{ρ:ba→V}{H:ai}{ns:Nat}
def gu(P:Program)(t:TypeId):cJ→Prop| .int=>∃k,P.underlying t=some (.int k)| .str=>P.underlying t=some .string| .bool=>P.underlying t=some .bool
theorem pn{kk:cJ}{t:TypeId}(h:gu P t kk)(e:Bool)(v:Value):(Instr.checkKey e 10000 t v).run P w=.ok () w:=by
 have key:∀n,(Instr.checkKey e (n+1) t v).run P w=.ok () w:=by
  intro n;cases kk with
   |int=>obtain⟨k,hk⟩:=h;simp[Instr.checkKey,run_underlying hk]
   |str=>simp only[gu]at h;simp[Instr.checkKey,run_underlying h]
   |bool=>simp only[gu]at h;simp[Instr.checkKey,run_underlying h]
 exact key 9999
theorem wX(s t:ByteArray):(s==t)=Fw.ae s.data.toList t.data.toList:=by
 have e:(s==t)=(s.data==t.data):=by cases s;cases t;rfl
 rw[e,fS];by_cases h:s.data=t.data
 ·simp[h]
 ·have:¬s.data.toList=t.data.toList:=fun e=>h (adm e)
  simp[h]
theorem A8{kk:cJ}{t:TypeId}{d:TypeDesc}{k x:D}{kv xv:Value}{im:Nat→Prop}(ht:gu P t kk)(hd:P.underlying t=some d)(hk:eW kk k=true)(h1:Rd w im k kv)(h2:Rd w im x xv){b:Bool}(h:yr k x=some b):Instr.sameNow d kv xv=some b:=by
 cases kk with
  |int=>
   obtain⟨ik,A9⟩:=ht;rw[hd]at A9;simp only[aaC]at A9;subst A9;cases k with
    |int k1 n1=>
     cases x with
      |int k2 n2=>simp only[Rd]at h1 h2;subst h1;subst h2;simpa[yr,Instr.sameNow]using h
      |_=>simp[yr]at h
    |_=>simp[eW]at hk
  |str=>
   simp only[gu]at ht;rw[hd]at ht;simp only[aaC]at ht;subst ht;cases k with
    |str k1=>
     cases x with
      |str k2=>simp only[Rd]at h1 h2;obtain⟨s1,rfl,rfl⟩:=h1;obtain⟨s2,rfl,rfl⟩:=h2;simp only[yr,aaC]at h;simp[Instr.sameNow,wX,h]
      |_=>simp[yr]at h
    |_=>simp[eW]at hk
  |bool=>
   simp only[gu]at ht;rw[hd]at ht;simp only[aaC]at ht;subst ht;cases k with
    |bool k1=>
     cases x with
      |bool k2=>simp only[Rd]at h1 h2;subst h1;subst h2;simpa[yr,Instr.sameNow]using h
      |_=>simp[yr]at h
    |_=>simp[eW]at hk
def RM(g:G)(w:World):List (D×V)→List MapEntry→Prop|[],[]=>True|(k,v)::es,x::xs=>(Rd w (dq g w) k x.key∧RV g w v x.val)∧RM g w es xs|_,_=>False
theorem mA{kk:cJ}{t:TypeId}{d:TypeDesc}{k:D}{kv:Value}(ht:gu P t kk)(hd:P.underlying t=some d)(hk:eW kk k=true)(h1:Rd w (dq g w) k kv):∀{es:List (D×V)}{xs:List MapEntry}{i:Nat}{r:Option (Nat×V)},RM g w es xs→kP k es i=some r→(r=none∧Instr.findNow d kv xs i=some none)∨∃j v x,r=some (i+j,v)∧xs[j]? =some x∧Instr.findNow d kv xs i=some (some (i+j,x.val))∧RV g w v x.val∧Instr.sameNow d kv x.key=some true∧j<es.length
 |[],[],i,r,_,h=>by simp[kP]at h;subst h;exact .inl ⟨rfl,rfl⟩
 |(k2,v2)::es,x::xs,i,r,hm,h=>by
  simp only[RM]at hm;simp only[kP]at h;cases hb:yr k k2 with
   |none=>simp[hb]at h
   |some b=>
    have hs:=A8 ht hd hk h1 hm.1.1 hb;cases b with
     |true=>simp[hb]at h;subst h;exact .inr ⟨0,v2,x,rfl,rfl,by simp[Instr.findNow,hs],hm.1.2,hs,by simp⟩
     |false=>
      simp only[hb]at h;rcases mA ht hd hk h1 hm.2 h with⟨e1,e2⟩|⟨j,v,y,e1,e2,e3,e4,e5,e6⟩
      ·exact .inl ⟨e1,by simp[Instr.findNow,hs,e2]⟩
      ·refine .inr ⟨j+1,v,y,by rw[e1];congr 2;omega,by simpa using e2,?_,e4,e5,by simp;omega⟩;simp only[Instr.findNow,hs,e3];congr 3;omega
 |[],_::_,_,_,h,_=>by simp only[RM]at h
 |_::_,[],_,_,h,_=>by simp only[RM]at h
theorem RM.of{es:List (D×V)}{bO:Array MapEntry}(hs:bO.size=es.length)(h:∀(i:Nat)(k:D)(v:V),es[i]? =some (k,v)→∃x,bO[i]? =some x∧Rd w (dq g w) k x.key∧RV g w v x.val):RM g w es bO.toList:=by
 have hl:es.length=bO.toList.length:=by simp[hs]
 have h':∀(i:Nat)(k:D)(v:V),es[i]? =some (k,v)→∃x,bO.toList[i]? =some x∧Rd w (dq g w) k x.key∧RV g w v x.val:=by intro i k v hi;obtain⟨x,hx,hr⟩:=h i k v hi;exact⟨x,by simpa using hx,hr⟩
 clear h hs;generalize bO.toList=xs at*;induction es generalizing xs with
  |nil=>
   cases xs with
    |nil=>simp only[RM]
    |cons=>simp at hl
  |cons e es ih=>
   obtain⟨k,v⟩:=e;cases xs with
    |nil=>simp at hl
    |cons x xs=>simp only[RM];obtain⟨y,hy,h1,h2⟩:=h' 0 k v rfl;simp at hy;subst hy;exact⟨⟨h1,h2⟩,ih xs (by simpa using hl) (fun i k v hi=>h' (i+1) k v (by simpa using hi))⟩
theorem tc{t kt el:TypeId}{m k:Operand}{m' k':ba}{kk:cJ}{z:V}{ok:Bool}{v:V}(ho:o.op=.lookup t m k ok)(ht:P.underlying t=some (.map kt el))(nT:gu P kt kk)(hz:GV P el=some z)(hm:av m=some m')(hk:av k=some k')(h:bw ρ H ns (.lookup kk z ok m' k')=some (v,none))(ev:Ev ρ a g w)(hh:az g w H):Good P a o g w ns v H:=by
 have Kd:=ev _ _ hm;have Ha:=ev _ _ hk;simp only[GV,abF]at hz;obtain⟨zv,⟨i,hi,hzi⟩,yF⟩:=hz;have Q9:RV g w z zv:=GZ yF;simp only[bw]at h;split at h
 ·rename_i kd ek;cases C6:eW kk kd with
   |false=>rw[C6]at h;cases h
   |true=>
    rw[C6]at h;simp only[aaH]at h;split at h
    ·rename_i es wY;rw[ek]at Ha;simp only[RV]at Ha;have hd:∃d,P.underlying kt=some d:=by
      cases kk with
       |int=>obtain⟨q,hq⟩:=nT;exact⟨_,hq⟩
       |str=>exact⟨_,nT⟩
       |bool=>exact⟨_,nT⟩
     obtain⟨d,hd⟩:=hd;have Wg:∃xs:Array MapEntry,RM g w es xs.toList∧((a.eval m=.map none∧xs= #[])∨∃r clock,a.eval m=.map (some r)∧w.heap[r]? =some (.map xs clock)):=by
      cases Wh:ρ m' with
       |mf=>rw[Wh]at Kd wY;simp only[RV]at Kd;simp only[lV,aaC]at wY;subst wY;exact⟨#[],by simp[RM],.inl ⟨Kd,rfl⟩⟩
       |map b=>
        rw[Wh]at Kd wY;simp only[lV]at wY;split at wY
        ·rename_i Qf hg;simp only[aaC]at wY;subst wY;obtain⟨x,hx⟩:=hh.back b _ hg;obtain⟨_,y,hy,hr⟩:=hh.live b x hx;rw[hg]at hy;simp only[aaC]at hy;subst hy;simp only[RV]at Kd;obtain⟨aT,rfl,KB⟩:=Kd.2 x hx;simp only[RB]at hr;obtain⟨bO,clock,h1,h2,h3,h4,h5⟩:=hr;exact⟨bO,RM.of h2 (fun i k v hi=>by obtain⟨x,e1,e2,e3,e4⟩:=h3 i k v hi;exact⟨x,e1,e3,e4⟩),.inr ⟨aT,clock,KB,h1⟩⟩
        ·cases wY
       |_=>rw[Wh]at wY;simp[lV]at wY
     obtain⟨xs,s_,Eh⟩:=Wg;have NN:=fun b=>pn (P:=P) (w:=w) nT b (a.eval k)
     split at h
     ·rename_i j u hf;simp only[aaC,aaF,aco]at h;rcases mA nT hd C6 Ha s_ hf with⟨e1,_⟩|⟨j',v',x,e1,e2,e3,e4,_⟩
      ·cases e1
      ·simp only[aaC,aaF]at e1;obtain⟨_,rfl⟩:=e1;refine Good.val (x:=if ok then .tuple #[x.val,.bool true]else x.val) hh ?_ ?_
       ·rcases Eh with⟨q1,rfl⟩|⟨r,clock,q1,q2⟩
        ·simp[Instr.findNow]at e3
        ·simp[execOp,ho,Instr.lookup,run_underlying ht,q1,getObj,Sem.run,q2,NN,Instr.findKey,run_underlying hd,e3]
       ·rw[←h];cases ok with
         |true=>simp only[aaH,abv,RV];exact⟨_,rfl,by simp only[aV];exact⟨e4,RV.Ee _,trivial⟩⟩
         |false=>simpa using e4
     ·rename_i hf;simp only[aaC,aaF,aco]at h;rcases mA nT hd C6 Ha s_ hf with⟨_,e3⟩|⟨j',v',x,e1,_⟩
      ·refine Good.val (x:=if ok then .tuple #[zv,.bool false]else zv) hh ?_ ?_
       ·rcases Eh with⟨q1,rfl⟩|⟨r,clock,q1,q2⟩
        ·have Wi:=NN true;simp[execOp,ho,Instr.lookup,run_underlying ht,q1,Wi,Instr.findKey,run_underlying hd,Instr.findNow,pk hi hzi]
        ·simp[execOp,ho,Instr.lookup,run_underlying ht,q1,getObj,Sem.run,q2,NN,Instr.findKey,run_underlying hd,e3,pk hi hzi]
       ·rw[←h];cases ok with
         |true=>simp only[aaH,abv,RV];exact⟨_,rfl,by simp only[aV];exact⟨Q9,RV.Ee _,trivial⟩⟩
         |false=>simpa using Q9
      ·cases e1
     ·cases h
    ·cases h
 ·cases h
theorem nU(w:World)(k:Nat)(x:Obj)(h:k<w.heap.size):({w with heap:=w.heap.setIfInBounds k x}:World).heap[k]? =some x:=by simp[h]
theorem mB(w:World)(k j:Nat)(x:Obj)(h:j≠k):({w with heap:=w.heap.setIfInBounds k x}:World).heap[j]? =w.heap[j]? :=by simp only[aa6 (acM h)]
theorem yN{kk:cJ}{t:TypeId}{d:TypeDesc}{kv xv:Value}(ht:gu P t kk)(hd:P.underlying t=some d)(h:Instr.sameNow d kv xv=some true):Instr.sameBits 10000 xv kv=true:=by
 have NS:(∃q,d=.int q)∨d=.string∨d=.bool:=by
  cases kk with
   |int=>obtain⟨k,hk⟩:=ht;rw[hd]at hk;simp only[aaC]at hk;exact .inl ⟨k,hk⟩
   |str=>simp only[gu]at ht;rw[hd]at ht;simp only[aaC]at ht;exact .inr (.inl ht)
   |bool=>simp only[gu]at ht;rw[hd]at ht;simp only[aaC]at ht;exact .inr (.inr ht)
 rcases NS with⟨q,rfl⟩|rfl|rfl
 ·cases kv<;>cases xv<;>simp[Instr.sameNow]at h;obtain⟨rfl,rfl⟩:=h;simp[Instr.sameBits]
 ·cases kv<;>cases xv<;>simp[Instr.sameNow]at h;rename_i s t;have e:s=t:=by rw[wX,fS]at h;exact ByteArray.ext (adm (by simpa using h))
  subst e;have e2:(s==s)=true:=by rw[wX,fS];simp
  simpa[Instr.sameBits]using e2
 ·cases kv<;>cases xv<;>simp[Instr.sameNow]at h;subst h;simp[Instr.sameBits]
theorem tf{t kt el:TypeId}{m k x:Operand}{m' k' x':ba}{kk:cJ}{v:V}{wr:Wr}(ho:o.op=.mapUpdate t m k x)(ht:P.underlying t=some (.map kt el))(nT:gu P kt kk)(hm:av m=some m')(hk:av k=some k')(hx:av x=some x')(h:bw ρ H ns (.gj kk m' k' x')=some (v,wr))(ev:Ev ρ a g w)(hh:az g w H):Good P a o g w ns v (aZ H wr):=by
 have Kd:=ev _ _ hm;have Ha:=ev _ _ hk;have cK:=ev _ _ hx;simp only[bw]at h;split at h
 ·rename_i b kd em ek;cases C6:eW kk kd with
   |false=>rw[C6]at h;cases h
   |true=>
    rw[C6]at h;simp only[aaH]at h;split at h
    ·rename_i es hg;rw[ek]at Ha;rw[em]at Kd;simp only[RV]at Ha Kd;have hd:∃d,P.underlying kt=some d:=by
      cases kk with
       |int=>obtain⟨q,hq⟩:=nT;exact⟨_,hq⟩
       |str=>exact⟨_,nT⟩
       |bool=>exact⟨_,nT⟩
     obtain⟨d,hd⟩:=hd;obtain⟨xb,oc⟩:=hh.back b _ hg;obtain⟨_,y,hy,hr⟩:=hh.live b xb oc;rw[hg]at hy;simp only[aaC]at hy;subst hy;obtain⟨aT,rfl,KB⟩:=Kd.2 xb oc;simp only[RB]at hr;obtain⟨bO,clock,h1,h2,h3,h4,h5⟩:=hr;have bS:aT<w.heap.size:=(abG.1 h1).1;have s_:RM g w es bO.toList:=RM.of h2 (fun i k v hi=>by obtain⟨x,e1,e2,e3,e4⟩:=h3 i k v hi;exact⟨x,e1,e3,e4⟩);have NN:=fun b=>pn (P:=P) (w:=w) nT b (a.eval k)
     have r_:∀o',cr g w g {w with heap:=w.heap.setIfInBounds aT o'}:=fun o'=>cr.write oc rfl (hh.vp oc rfl) rfl rfl rfl (by simp) (fun j hj=>mB w aT j o' hj)
     split at h
     ·rename_i j u hf;simp only[aaC,aaF]at h;obtain⟨rfl,rfl⟩:=h;rcases mA nT hd C6 Ha s_ hf with⟨e1,_⟩|⟨j',v',x0,e1,e2,e3,e4,e5,e6⟩
      ·cases e1
      ·simp only[aaC,aaF,aaU]at e1;obtain⟨rfl,rfl⟩:=e1;rw[aaU]at e3;have Q_:bO[j]? =some x0:=by simpa using e2
       have hsb:=yN nT hd e5;refine⟨g,_,.skip,?_,.inr ⟨rfl,rfl⟩,?_,r_ (.map (bO.modify j fun e=>{e with key:=a.eval k,val:=a.eval x}) clock),fun _ h=>.inl h⟩
       ·simp[execOp,ho,Instr.mapUpdate,run_underlying ht,KB,getObj,setObj,Sem.run,h1,NN,Instr.findKey,run_underlying hd,e3,Q_,Instr.keyThatStays,hsb]
       ·refine az.write hh _ oc rfl (r_ _) (fun q hq=>mB w aT q _ hq) ?_;simp only[RB];refine⟨_,clock,nU w aT _ bS,by simp[h2],fun i k2 v2 hi=>?_,?_ ⟩
        ·by_cases KC:i=j
         ·subst KC;rw[adf (by omega)]at hi;simp only[aaC,aaF]at hi;obtain⟨rfl,rfl⟩:=hi;refine⟨{x0 with key:=a.eval k,val:=a.eval x},by simp[abX,Q_],?_,Rd.keeps (r_ _).keeps _ _ Ha,RV.ext (r_ _) _ _ cK⟩;obtain⟨z,z1,z2,_⟩:=h3 i (es[i]'e6).1 (es[i]'e6).2 (aaG e6);rw[Q_]at z1;simp only[aaC]at z1;subst z1;exact z2
         ·rw[List.getElem?_set_ne (by omega)]at hi;obtain⟨z,z1,z2,z3,z4⟩:=h3 i k2 v2 hi;exact⟨z,by simp[abX,acM KC,z1],z2,Rd.keeps (r_ _).keeps _ _ z3,RV.ext (r_ _) _ _ z4⟩
        ·have Ra:∀(i:Nat)(p:MapEntry),(bO.modify j fun e=>{e with key:=a.eval k,val:=a.eval x})[i]? =some p→∃q,bO[i]? =some q∧q.born=p.born:=by
          intro i p hp;rw[abX]at hp;split at hp
          ·rename_i KC;subst KC;rw[Q_]at hp;simp at hp;subst hp;exact⟨x0,Q_,rfl⟩
          ·exact⟨p,hp,rfl⟩
         refine⟨fun i p hp=>?_,by simp[h5]⟩;obtain⟨q,q1,q2⟩:=Ra i p hp;rw[←q2];exact h4 i q q1
     ·rename_i hf;simp only[aaC,aaF]at h;obtain⟨rfl,rfl⟩:=h;rcases mA nT hd C6 Ha s_ hf with⟨_,e3⟩|⟨j',v',x0,e1,_⟩
      ·refine⟨g,_,.skip,?_,.inr ⟨rfl,rfl⟩,?_,r_ (.map (bO.push {key:=a.eval k,val:=a.eval x,born:=clock}) (clock+1)),fun _ h=>.inl h⟩
       ·simp[execOp,ho,Instr.mapUpdate,run_underlying ht,KB,getObj,setObj,Sem.run,h1,NN,Instr.findKey,run_underlying hd,e3]
       ·refine az.write hh _ oc rfl (r_ _) (fun q hq=>mB w aT q _ hq) ?_;simp only[RB];refine⟨_,clock+1,nU w aT _ bS,by simp[h2],fun i k2 v2 hi=>?_,?_ ⟩
        ·by_cases KC:i<es.length
         ·rw[abt KC]at hi;obtain⟨z,z1,z2,z3,z4⟩:=h3 i k2 v2 hi;have NT:i<bO.size:=by omega
          exact⟨z,by rw[acx,aaL (by omega)];exact z1,by omega,Rd.keeps (r_ _).keeps _ _ z3,RV.ext (r_ _) _ _ z4⟩
         ·have Wj:i=es.length:=by have:=(aaK.1 hi).1;simp at this;omega
          subst Wj;rw[abo (aaQ _)]at hi;simp at hi;obtain⟨rfl,rfl⟩:=hi;exact⟨{key:=a.eval k,val:=a.eval x,born:=clock},by rw[acx,aaP h2.symm],by simp,Rd.keeps (r_ _).keeps _ _ Ha,RV.ext (r_ _) _ _ cK⟩
        ·refine⟨fun i p hp=>?_,by simp[h5]⟩;rw[acx]at hp;split at hp
         ·rename_i hi;simp only[aaC]at hp;subst hp;simp[h5,hi]
         ·exact h4 i p hp
      ·cases e1
     ·cases h
    ·cases h
 ·cases h
theorem vu{isMax:Bool}{k:IntKind}:∀{l:List V}{xs:List Value}{n r:Int},aV g w l xs→ob isMax n l k=some r→(xs.foldlM (if isMax then Builtin.max2 else Builtin.min2) (.int k n)).run P w=.ok (.int k r) w
 |[],[],n,r,_,h=>by simp[ob]at h;subst h;simp
 |v::l,x::xs,n,r,hv,h=>by
  simp only[aV]at hv;cases v with
   |d y=>
    cases y with
     |int k2 m=>
      simp only[ob]at h;split at h
      ·rename_i hk;subst hk;have hx:=RV.int hv.1;subst hx;have ih:=vu hv.2 h;simp only[List.foldlM_cons,Sem.run_bind];cases isMax with
        |true=>simp only[abv]at ih⊢;simp only[Builtin.max2,Sem.run_pure,Result.andThen_ok];have e:(if m>n then m else n)=(if n<m then m else n):=rfl;rw[e];exact ih
        |false=>simp only[abB,abT]at ih⊢;simp only[Builtin.min2,Sem.run_pure,Result.andThen_ok];exact ih
      ·cases h
     |_=>simp[ob]at h
   |_=>simp[ob]at h
 |[],_::_,_,_,h,_=>by simp only[aV]at h
 |_::_,[],_,_,h,_=>by simp only[aV]at h
theorem yO{isMax:Bool}{args:Array Operand}{ts:Array TypeId}{l:List ba}{v:V}(ho:o.op=.call {callee:=.builtin (if isMax then .max else .min),args:=args,argTypes:=ts})(hl:bK av args.toList=some l)(h:bw ρ H ns (.qn isMax l)=some (v,none))(ev:Ev ρ a g w)(hh:az g w H):Good P a o g w ns v H:=by
 have dX:=iw ev hl;simp only[bw]at h;split at h
 ·rename_i k n A' e;simp only[aaE,aaF,aco]at h;obtain⟨r,hr,rfl⟩:=h;rw[e]at dX;cases hx:args.toList.map a.eval with
   |nil=>rw[hx]at dX;simp only[aV]at dX
   |cons x xs=>
    rw[hx]at dX;simp only[aV]at dX;have Vi:=RV.int dX.1;subst Vi;have hf:=vu (P:=P) dX.2 hr;have gR:(args.map a.eval).toList=.int k n::xs:=by rw[acP,hx]
    refine Good.val hh ?_ (RV.A4 k r);cases isMax with
     |true=>
      have e2:(Builtin.max_ ts o.type (args.map a.eval)).run P w=.ok (.int k r) w:=by simp only[Builtin.max_,gR];exact hf
      simp[execOp,ho,resolve,invoke,builtin,e2]
     |false=>
      have e2:(Builtin.min_ ts o.type (args.map a.eval)).run P w=.ok (.int k r) w:=by simp only[Builtin.min_,gR];exact hf
      simp[execOp,ho,resolve,invoke,builtin,e2]
 ·cases h
end
end Fw
/-
  Operations, further: structs held against structs, the bytes of a string, make.
-/
namespace Fw
open Go
section
variable {P:Program}{a:Act}{o:Oper}{g:G}{w:World}{ρ:ba→V}{H:ai}{ns:Nat}
theorem A_{t:TypeId}{k:cJ}(h:wP P t=some k):gu P t k:=by
 unfold wP at h;split at h<;>simp only[aaC,reduceCtorEq]at h<;>subst h
 ·rename_i q hq;exact⟨q,hq⟩
 ·rename_i hq;exact hq
 ·rename_i hq;exact hq
theorem u4{k:cJ}{t:TypeId}{x y:D}{vx vy:Value}{im:Nat→Prop}{b:Bool}(ht:gu P t k)(hk:eW k x=true)(h:yr x y=some b)(h1:Rd w im x vx)(h2:Rd w im y vy)(d:Nat):(Op.equalIn (d+1) t vx vy).run P w=.ok b w:=by
 cases k with
  |int=>obtain⟨q,hq⟩:=ht;cases x<;>simp[eW]at hk;cases y<;>simp[yr]at h;obtain⟨rfl,rfl⟩:=h;simp only[Rd]at h1 h2;subst h1;subst h2;simp[Op.equalIn,run_underlying hq]
  |str=>simp only[gu]at ht;cases x<;>simp[eW]at hk;cases y<;>simp[yr]at h;simp only[Rd]at h1 h2;obtain⟨s1,rfl,rfl⟩:=h1;obtain⟨s2,rfl,rfl⟩:=h2;have:=wX s1 s2;rw[h]at this;simp[Op.equalIn,run_underlying ht,this]
  |bool=>simp only[gu]at ht;cases x<;>simp[eW]at hk;cases y<;>simp[yr]at h;subst h;simp only[Rd]at h1 h2;subst h1;subst h2;simp[Op.equalIn,run_underlying ht]
theorem yP{t:TypeId}{k:cJ}(h:gu P t k):(isAgg t).run P w=.ok false w:=by
 cases k with
  |int=>obtain⟨q,hq⟩:=h;simp[isAgg,run_underlying hq]
  |str=>simp only[gu]at h;simp[isAgg,run_underlying h]
  |bool=>simp only[gu]at h;simp[isAgg,run_underlying h]
theorem rD(d:Nat){xs ys:Array Value}:∀{fs:List Field}{n:Nat}{ks:List cJ}{us vs:List V}{b:Bool},iD P n fs=some ks→jo ks us vs=some b→aV g w us (xs.toList.drop n)→aV g w vs (ys.toList.drop n)→(Op.eqFields (d+1) xs ys fs).run P w=.ok b w
 |[],n,ks,us,vs,b,h1,h2,_,_=>by simp only[iD,aaC]at h1;subst h1;cases us<;>cases vs<;>simp[jo]at h2;subst h2;simp[Op.eqFields]
 |f::fs,n,ks,us,vs,b,h1,h2,h3,h4=>by
  simp only[iD]at h1;split at h1
  ·rename_i hc;split at h1
   ·rename_i k ks' hk Er;simp only[aaC]at h1;subst h1;cases us with
     |nil=>simp[jo]at h2
     |cons u us=>
      obtain⟨x,rfl⟩:∃x,u=.d x:=by cases u<;>first|exact⟨_,rfl⟩|simp[jo]at h2
      cases vs with
       |nil=>simp[jo]at h2
       |cons v vs=>
        obtain⟨y,rfl⟩:∃y,v=.d y:=by cases v<;>first|exact⟨_,rfl⟩|simp[jo]at h2
        simp only[jo]at h2;cases C6:eW k x with
         |false=>rw[C6]at h2;cases h2
         |true=>
          rw[C6]at h2;simp only[aaH]at h2;have nT:=A_ hk;have cell:∀(zs:Array Value)(z:D)(ws:List V),aV g w (.d z::ws) (zs.toList.drop n)→∃c,zs[n]? =some c∧Rd w (dq g w) z c∧aV g w ws (zs.toList.drop (n+1)):=by
           intro zs z ws h;cases hd:zs.toList.drop n with
            |nil=>rw[hd]at h;simp only[aV]at h
            |cons c cs=>
             rw[hd]at h;simp only[aV,RV]at h;refine⟨c,?_,h.1,?_⟩
             ·have:(zs.toList.drop n)[0]? =some c:=by rw[hd];rfl
              rw[abA]at this;simpa using this
             ·have:zs.toList.drop (n+1)=cs:=by rw[←acN,hd];rfl
              rw[this];exact h.2
          obtain⟨c1,a1,a2,a3⟩:=cell xs x us h3;obtain⟨c2,b1,b2,b3⟩:=cell ys y vs h4;have nV:=yP (P:=P) (w:=w) nT;have p1:(part f.type xs f.offset).run P w=.ok c1 w:=by rw[hc.1];simp[part,nV,a1]
          have p2:(part f.type ys f.offset).run P w=.ok c2 w:=by rw[hc.1];simp[part,nV,b1]
          simp only[Op.eqFields,hc.2,ne_eq,not_false_eq_true,abv,Sem.run_bind,p1,p2,Result.andThen_ok];cases Wk:yr x y with
           |none=>rw[Wk]at h2;cases h2
           |some r=>
            rw[u4 nT C6 Wk a2 b2 d];rw[Wk]at h2;cases r with
             |true=>simp only at h2;simp only[Result.andThen_ok,abp,abB,abT];exact rD d Er h2 a3 b3
             |false=>simp only[aaC]at h2;subst h2;simp
   ·cases h1
  ·cases h1
theorem MK{op:BinOp}{t yt:TypeId}{x y:Operand}{x' y':ba}{ks:List cJ}{us vs:List V}{b neg:Bool}(ho:o.op=.binOp op t x y yt)(eH:(op=.eql∧neg=false)∨(op=.neq∧neg=true))(hp:j4 P t=some ks)(hx:av x=some x')(hy:av y=some y')(e1:ρ x'=.agg us)(e2:ρ y'=.agg vs)(h:jo ks us vs=some b)(ev:Ev ρ a g w)(hh:az g w H):Good P a o g w ns (.d (.bool (bif neg then !b else b))) H:=by
 have cK:=ev _ _ hx;have dW:=ev _ _ hy;rw[e1]at cK;rw[e2]at dW;simp only[RV]at cK dW;obtain⟨xs,f1,r1⟩:=cK;obtain⟨ys,f2,r2⟩:=dW;unfold j4 at hp;split at hp
 ·rename_i fs hu;split at hp
  ·rename_i hc;have C1:P.fieldsOf t=fs:=by simp[Program.fieldsOf,hu]
   have key:∀d,(Op.equalIn (d+2) t (.agg xs) (.agg ys)).run P w=.ok b w:=by intro d;rw[run_equalIn_struct w (d+1) t xs ys (by rw[C1];exact hu) hc.1,C1];exact rD d hp h (by simpa using r1) (by simpa using r2)
   have heq:(Op.equal t (.agg xs) (.agg ys)).run P w=.ok b w:=key 9998;have lz:(eqGuard op t x y (.agg xs) (.agg ys)).run P w=.ok () w:=run_eqGuard_agg w op t x y xs ys hc.2;refine Good.val (x:=.bool (bif neg then !b else b)) hh ?_ (RV.Ee _);rcases eH with⟨rfl,rfl⟩|⟨rfl,rfl⟩<;>simp[execOp,ho,f1,f2,lz,binOp,heq]
  ·cases hp
 ·cases hp
theorem po{w:World}{b o n k:Nat}(h:k≠b):(w.freeze ⟨b,o,none⟩ n).heap[k]? =w.heap[k]? :=by
 unfold World.freeze;split
 ·rfl
 ·simp only[abX];rw[aaL (by omega)]
theorem mC{w:World}{a:Addr}{n:Nat}:(w.freeze a n).heap.size=w.heap.size:=by unfold World.freeze;split<;>simp
theorem cr.Et{g:G}{w:World}{H:ai}(hh:az g w H)(o:Obj)(q n:Nat):cr g w g ((w.alloc o).freeze ⟨w.heap.size,q,none⟩ n):=by
 have hk:∀k,k<w.heap.size→((w.alloc o).freeze ⟨w.heap.size,q,none⟩ n).heap[k]? =w.heap[k]? :=by intro k hk;rw[po (by omega),cS _ _ hk]
 have h1:∀(w':World)(a:Addr),(w'.freeze a n).os=w'.os∧(w'.freeze a n).tape=w'.tape∧(w'.freeze a n).output=w'.output:=by intro w' a;unfold World.freeze;split<;>exact⟨rfl,rfl,rfl⟩
 obtain⟨e1,e2,e3⟩:=h1 (w.alloc o) ⟨w.heap.size,q,none⟩;refine⟨e1,e2,e3,by rw[mC];simp,fun k uS=>⟨⟨by rw[mC];have:=uS.1;simp;omega,uS.2⟩,hk k uS.1⟩,fun _ h=>h,fun _ _=>GB.step.refl _,rfl,fun k uS=>hk k (hh.fo k uS).1⟩
theorem run_mark(c:Array Value)(e:TypeId)(w:World):(markStringish ⟨w.heap.size,0,none⟩).run P (w.alloc (.cells c e))=.ok () ((w.alloc (.cells c e)).freeze ⟨w.heap.size,c.size,none⟩ 1):=by
 have h:(w.alloc (.cells c e)).shape? w.heap.size=some (e,c.size):=by unfold World.shape?;rw[bV]
 simp only[markStringish,Sem.run_bind,run_shape,h,Result.andThen_ok,run_freeze]
theorem Be{s d e:TypeId}{x:Operand}{x':ba}{l:List UInt8}(ho:o.op=.convert s d x)(hs:P.underlying s=some .string)(hd:P.underlying d=some (.slice e))(he:P.underlying e=some (.int .u8))(hx:av x=some x')(ex:ρ x'=.d (.str l))(ev:Ev ρ a g w)(hh:az g w H):Good P a o g w ns (.d (.list (l.map fun b=>[.int .u8 b.toNat]))) H:=by
 have hv:=ev _ _ hx;rw[ex]at hv;obtain⟨b,hb,rfl⟩:=RV.str hv;have eL:∃(cap:Nat)(fz:Nat),b.size≤cap∧(execOp a.eval o).run P w=.ok (.value (.slice (some ⟨w.heap.size,0,none⟩) b.size cap)) ((w.drew.alloc (.cells ((b.data.map fun x=>(Value.int .u8 x.toNat))++Array.replicate (cap - b.size) (.int .u8 0)) e)).freeze ⟨w.heap.size,fz,none⟩ 1):=by
  have hm:=run_mark (P:=P) ((b.data.map fun(x:UInt8)=>(Value.int .u8 x.toNat))++Array.replicate ((Question.appendCap b.size 0 e).cut (w.tape w.drawn (.appendCap b.size 0 e)) - b.size) (Value.int .u8 0)) e w.drew;refine⟨(Question.appendCap b.size 0 e).cut (w.tape w.drawn (.appendCap b.size 0 e)),((b.data.map fun(x:UInt8)=>(Value.int .u8 x.toNat))++Array.replicate ((Question.appendCap b.size 0 e).cut (w.tape w.drawn (.appendCap b.size 0 e)) - b.size) (Value.int .u8 0)).size,?_,?_⟩
  ·simp[Question.cut]
  ·have Hb:w.drew.heap.size=w.heap.size:=rfl;rw[Hb]at hm;simp only[execOp,ho,hb,convert,Sem.run_bind,run_underlying hs,run_underlying hd,run_underlying he,Result.andThen_ok,Conv.stringToBytes,run_choose,Question.forced,newRow,run_newObj,Sem.run_pure,abB,abT];erw [hm];rfl
 obtain⟨cap,fz,Hc,hr⟩:=eL;have hhd:=hh.drew;have sy:=cr.Et (w:=w.drew) hhd (.cells ((b.data.map fun x=>(Value.int .u8 x.toNat))++Array.replicate (cap - b.size) (.int .u8 0)) e) fz 1;have yQ:=(j8 g w).trans sy;have jx:∀c y k,g.γ c=some y→y.own=some k→((w.drew.alloc (.cells ((b.data.map fun x=>(Value.int .u8 x.toNat))++Array.replicate (cap - b.size) (.int .u8 0)) e)).freeze ⟨w.heap.size,fz,none⟩ 1).heap[k]? =w.heap[k]? :=by intro c y k hy hk;obtain⟨_,z,_,h3⟩:=hh.live c y hy;have:=h3.lt k hk;rw[po (by omega)];exact cS w.drew _ this
 refine⟨g,_,_,hr,.inl ⟨_,rfl,?_⟩,hh.ext yQ jx,yQ,fun _ h=>.inl h⟩;have Rb:∀j,j<b.size→((w.drew.alloc (.cells ((b.data.map fun x=>(Value.int .u8 x.toNat))++Array.replicate (cap - b.size) (.int .u8 0)) e)).freeze ⟨w.heap.size,fz,none⟩ 1).cell? ⟨w.heap.size,j,none⟩=(b.data.toList[j]? ).map fun x=>Value.int .u8 x.toNat:=by
  intro j hj;have bS:w.drew.heap.size<(w.drew.alloc (.cells ((b.data.map fun x=>(Value.int .u8 x.toNat))++Array.replicate (cap - b.size) (.int .u8 0)) e)).heap.size:=by simp
  have Wl:=bV w.drew (.cells ((b.data.map fun x=>(Value.int .u8 x.toNat))++Array.replicate (cap - b.size) (.int .u8 0)) e);have Wm:∃fr,((w.drew.alloc (.cells ((b.data.map fun x=>(Value.int .u8 x.toNat))++Array.replicate (cap - b.size) (.int .u8 0)) e)).freeze ⟨w.heap.size,fz,none⟩ 1).heap[w.heap.size]? =some (.cells ((b.data.map fun x=>(Value.int .u8 x.toNat))++Array.replicate (cap - b.size) (.int .u8 0)) e fr):=by unfold World.freeze;rw[aaL (by omega)];simp only[abX,abv];have:w.drew.heap.size=w.heap.size:=rfl;rw[←this,Wl];simp
  obtain⟨fr,Wm⟩:=Wm;simp only[World.cell?,Wm];have sA:j<b.data.size:=hj;rw[acp (by simpa using sA)];simp
 simp only[RV,Rd];refine .inr ⟨w.heap.size,0,cap,1,by simp,by simpa using Hc,fun _=>⟨by rw[mC];simp,fun hf=>by have:=(hh.fo _ hf).1;omega,fun c y hy hk=>?_ ⟩,iO.iP fun i e' Vj=>?_ ⟩
 ·obtain⟨_,z,_,h3⟩:=hh.live c y hy;have:=h3.lt _ hk;omega
 ·simp only[abf,aaE]at Vj;obtain⟨c,hc,rfl⟩:=Vj;have hi:i<b.size:=by have:=(aaK.1 hc).1;simpa using this
  refine⟨rfl,?_⟩;simp only[dx,aco,aaU,Nat.mul_one];refine⟨.int .u8 c.toNat,?_,by simp only[Rd]⟩;rw[Rb i hi,hc];rfl
theorem wrap_small{n:Nat}(h:n≤cy):IntKind.i64.wrap (n:Int)=n:=by
 have h2:cy=1099511627776:=by decide
 unfold IntKind.wrap;have e1:(2:Int)^IntKind.i64.bits=18446744073709551616:=by decide
 have e2:(2:Int)^(IntKind.i64.bits - 1)=9223372036854775808:=by decide
 rw[e1,e2];have:(n:Int)%18446744073709551616=n:=Int.emod_eq_of_lt (by omega) (by omega);rw[this];have:¬((n:Int)≥9223372036854775808):=by omega
 simp[this]
theorem KD{t e:TypeId}{i:TypeInfo}{zs:List V}{l c:Operand}{l' c':ba}{v:V}{wr:Wr}(ho:o.op=.makeSlice t l c)(ht:P.underlying t=some (.slice e))(hi:P.info? e=some i)(hz:dP P e=some zs)(hl:av l=some l')(hc:av c=some c')(h:bw ρ H ns (.yE i.size i.bytes zs l' c')=some (v,wr))(ev:Ev ρ a g w)(hh:az g w H)(jt:js g ns):Good P a o g w ns v (aZ H wr):=by
 simp only[dP,abF]at hz;obtain⟨zv,⟨i2,lA,yF⟩,hm⟩:=hz;rw[hi]at lA;simp only[aaC]at lA;subst lA;obtain⟨hv,eF⟩:=jv (g:=g) (w:=w) hm;simp only[bw]at h;split at h
 ·rename_i ln cn el ec;cases hb:(Nat.ble ln cn&&Nat.ble (cn*(i.bytes+1)) cy&&Nat.ble cn cy&&zs.all dO&&Nat.beq zs.length i.size&&Nat.blt 0 i.size)with
   |false=>rw[hb]at h;cases h
   |true=>
    rw[hb]at h;simp only[aaH,aaC,aaF]at h;obtain⟨rfl,rfl⟩:=h;simp only[aaD]at hb;have b1:=aaM hb.1.1.1.1.1;have b2:=aaM hb.1.1.1.1.2;have b3:=aaM hb.1.1.1.2;have b4:=aaI hb.1.2;have b5:0<i.size:=by have:=hb.2;rwa[aaT]at this
    have wZ:cy=1099511627776:=by decide
    obtain⟨kl,Vk⟩:=gq el (ev _ _ hl);obtain⟨kc,hkc⟩:=gq ec (ev _ _ hc);have MI:zv.cells.size=i.size:=by have:=hv.length;simp at this;omega
    have w1:=wrap_small (n:=ln) (by omega);have w2:=wrap_small (n:=cn) b3;have Wn:i.bytes*cn≤1099511627776:=by have:cn*i.bytes≤cn*(i.bytes+1):=Nat.mul_le_mul_left _ (by omega);rw[Nat.mul_comm];omega
    have Wo:¬((cn:Int)<0):=by omega
    have eL:(execOp a.eval o).run P w=.ok (.value (.slice (some ⟨w.heap.size,0,none⟩) ln cn)) (w.alloc (.cells ((Array.range (cn*i.size)).map (zv.cells[·%zv.cells.size]! )) e)):=by
     have Eu:¬((ln:Int)<0):=by omega
     have hlc:¬((ln:Int)>(cn:Int)):=by omega
     by_cases NQ:cn=0
     ·subst NQ;have:ln=0:=by omega
      subst this;have w0:IntKind.i64.wrap 0=0:=by decide
      simp[execOp,ho,Instr.makeSlice,run_underlying ht,Vk,hkc,asInt,asIntOf,typeInfo,hi,w0,Go.sizeOf,newRow,show Array.range 0= #[]from rfl]
     ·have V8:¬(cn=0∨i.size=0):=by omega
      have NU:¬(281474976710656<(i.bytes:Int)*(cn:Int)):=by rw[←Int.natCast_mul];omega
      have Wp:¬(cn*i.size=0):=by rw[ack];omega
      have Wq:¬((cn:Int)<(ln:Int)):=by omega
      simp[execOp,ho,Instr.makeSlice,run_underlying ht,Vk,hkc,asInt,asIntOf,typeInfo,hi,w1,w2,NU,Eu,Wq,Wo,Go.sizeOf,V8,Wp,zeroValue,yF,newRow]
    have aaw:=jt;let g':=g.add ns (.cells w.heap.size (cn*i.size) (ln*i.size));have he:=cr.new hh jt (.cells ((Array.range (cn*i.size)).map (zv.cells[·%zv.cells.size]! )) e) (.cells w.heap.size (cn*i.size) (ln*i.size)) rfl;have hle:ln*i.size≤cn*i.size:=abg _ b1;refine⟨g',_,_,eL,.inl ⟨_,rfl,?_⟩,az.new hh jt _ _ _ rfl ?_,he,fun _ h=>h⟩
    ·exact RV.A6 (cp:=cn*i.size) (.inr rfl) (by simp[g',G.add]) b1 (by omega)
    ·simp only[RB];have Bf:((List.range (ln*i.size)).map fun j=>zs.getD (j%i.size) .any).all dO=true:=by simp only[aaR,aa8,abb];rintro x ⟨j,_,rfl⟩;have:=acQ j b5;rw[aa7,aaG (by omega)];exact(aaR.1 eF) _ (abK _)
     refine⟨by simp,Bf,by simpa using hle,_,e,bV _ _,by simp,?_ ⟩;refine aV.ext he _ _ (aV.iP (by simp[ac3 hle]) fun j u x hu hx=>?_ );simp only[aaW,ade]at hx;rw[abd]at hx;split at hx
     ·rename_i hj;rw[s9 _ (by omega)]at hx;have sA:j<cn*i.size:=by omega
      rw[aaP sA,MI]at hx;simp[hj]at hu;subst hu;have U_:=acQ j b5;have hg:zs[j%i.size]? =some (zs[j%i.size]'(by omega)):=aaG _;rw[hg,abe];obtain⟨v',h5,h6⟩:=aV.get (j%i.size) hv hg;simp at h5 hx;rw[hx]at h5;simp only[aaC]at h5;subst h5;exact h6
     ·cases hx
 ·cases h
theorem Rc{t e:TypeId}{x:Operand}{x':ba}{v:V}{wr:Wr}(ho:o.op=.call {callee:=.builtin .cap,args:= #[x],argTypes:= #[t]})(ht:P.underlying t=some (.slice e))(hx:av x=some x')(h:bw ρ H ns (.cap x')=some (v,wr))(ev:Ev ρ a g w)(hh:az g w H):Good P a o g w ns v (aZ H wr):=by
 have cK:=ev _ _ hx;simp only[bw]at h;split at h
 ·rename_i e1;rw[e1]at cK;simp only[RV]at cK;simp only[aaC,aaF]at h;obtain⟨rfl,rfl⟩:=h;refine Good.val (x:=.int .i64 0) hh ?_ (RV.A4 _ _);simp[execOp,ho,resolve,invoke,builtin,Builtin.cap_,run_underlying ht,cK,goInt]
 ·cases h
theorem Ey{t u e:TypeId}{k:IntKind}{i:TypeInfo}{zs:List V}{x y:Operand}{x' y':ba}{v:V}{wr:Wr}(ho:o.op=.call {callee:=.builtin .append,args:= #[x,y],argTypes:= #[t,u]})(ht:P.underlying t=some (.slice e))(hu:P.underlying u=some (.int k))(hi:P.info? e=some i)(hz:dP P e=some zs)(hx:av x=some x')(hy:av y=some y')(h:bw ρ H ns (.ls i.size i.bytes zs x' y')=some (v,wr))(ev:Ev ρ a g w)(hh:az g w H)(jt:js g ns):Good P a o g w ns v (aZ H wr):=by
 simp only[dP,abF]at hz;obtain⟨zv,⟨i2,lA,yF⟩,hm⟩:=hz;rw[hi]at lA;simp only[aaC]at lA;subst lA;obtain⟨hv,eF⟩:=jv (g:=g) (w:=w) hm;have cK:=ev _ _ hx;simp only[bw]at h;split at h
 ·rename_i n e1 en;rw[e1]at cK;simp only[RV]at cK;cases hb:(Nat.blt 0 n&&Nat.ble (n*(i.bytes+1)) cy&&Nat.ble n cy&&zs.all dO&&Nat.beq zs.length i.size&&Nat.blt 0 i.size)with
   |false=>rw[hb]at h;cases h
   |true=>
    rw[hb]at h;simp only[aaH,aaC,aaF]at h;obtain⟨rfl,rfl⟩:=h;simp only[aaD]at hb;have b0:0<n:=by have:=hb.1.1.1.1.1;rwa[aaT]at this
    have b2:=aaM hb.1.1.1.1.2;have b3:=aaM hb.1.1.1.2;have b4:=aaI hb.1.2;have b5:0<i.size:=by have:=hb.2;rwa[aaT]at this
    have wZ:cy=1099511627776:=by decide
    obtain⟨kn,hkn⟩:=gq en (ev _ _ hy);have MI:zv.cells.size=i.size:=by have:=hv.length;simp at this;omega
    have w1:=wrap_small (n:=n) b3;have Wn:n*i.bytes≤1099511627776:=by have:n*i.bytes≤n*(i.bytes+1):=Nat.mul_le_mul_left _ (by omega);omega
    have Eu:¬((n:Int)<0):=by omega
    have NU:¬(281474976710656<(n:Int)*(i.bytes:Int)):=by rw[←Int.natCast_mul];omega
    have Wp:¬(n*i.size=0):=by rw[ack];omega
    have NQ:¬(n=0∨i.size=0):=by omega
    have Ws:¬n=0:=by omega
    have Wa:¬(9223372036854775807<(n:Int)):=by omega
    have hnx:Builtin.nextslicecap n 0=n:=by simp[Builtin.nextslicecap,b0]
    have NO:¬(281474976710656<n*i.bytes):=by omega
    have eL:(execOp a.eval o).run P w=.ok (.value (.slice (some ⟨w.heap.size,0,none⟩) n (grownCap w n 0 e))) (w.drew.alloc (.cells (Builtin.zeroCells zv.cells n++Builtin.zeroCells zv.cells (grownCap w n 0 e - n)) e)):=by simp[execOp,ho,resolve,invoke,builtin,Builtin.append_,run_underlying ht,run_underlying hu,cK,hkn,asInt,asIntOf,w1,Eu,NU,Wp,NQ,Ws,Wa,hnx,NO,Go.sizeOf,typeInfo,zeroValue,hi,yF,Question.forced,Builtin.firstCells,newRow,grownCap]
    have Qh:=grownCap_ge w n 0 e;have cB:(Builtin.zeroCells zv.cells n++Builtin.zeroCells zv.cells (grownCap w n 0 e - n)).size=grownCap w n 0 e*i.size:=by simp only[Array.size_append,size_zeroCells,MI,←abu];congr 1;omega
    have hle:n*i.size≤grownCap w n 0 e*i.size:=abg _ Qh;let g':=g.add ns (.cells w.heap.size (grownCap w n 0 e*i.size) (n*i.size));have hd:=j8 g w;have he:=cr.new hh.drew jt (.cells (Builtin.zeroCells zv.cells n++Builtin.zeroCells zv.cells (grownCap w n 0 e - n)) e) (.cells w.heap.size (grownCap w n 0 e*i.size) (n*i.size)) rfl;refine⟨g',_,_,eL,.inl ⟨_,rfl,?_⟩,az.new hh.drew jt _ _ _ rfl ?_,hd.trans he,fun _ h=>h⟩
    ·exact RV.A6 (cp:=grownCap w n 0 e*i.size) (.inr rfl) (by simp[g',G.add]) Qh (by omega)
    ·simp only[RB];have Bf:((List.range (n*i.size)).map fun j=>zs.getD (j%i.size) .any).all dO=true:=by simp only[aaR,aa8,abb];rintro x ⟨j,_,rfl⟩;have:=acQ j b5;rw[aa7,aaG (by omega)];exact(aaR.1 eF) _ (abK _)
     refine⟨by simp,Bf,by simpa using hle,_,e,bV _ _,by rw[cB];exact aaQ _,?_ ⟩;refine aV.ext he _ _ (aV.ext hd _ _ (aV.iP ?_ fun j u x hu hx=>?_ ))
     ·simp only[aaW,ade,abw,Array.length_toList,cB];omega
     ·simp only[aaW,ade]at hx;rw[abd]at hx;split at hx
      ·rename_i hj;simp[hj]at hu;subst hu;have hj3:j<(Builtin.zeroCells zv.cells n).size:=by rw[size_zeroCells,MI];exact hj
       have u5:(Builtin.zeroCells zv.cells n)[j]? =some x:=by rw[ab4,abt (by simpa using hj3)]at hx;simpa using hx
       have Hd:((Array.range (n*i.size)).map (zv.cells[·%zv.cells.size]! )).toList[j]? =some x:=by
        have:Builtin.zeroCells zv.cells n=(Array.range (n*i.size)).map (zv.cells[·%zv.cells.size]! ):=by simp only[Builtin.zeroCells,MI]
        rw[←this];simpa using u5
       rw[s9 _ (by omega),aaP hj,MI]at Hd;have U_:=acQ j b5;have hg:zs[j%i.size]? =some (zs[j%i.size]'(by omega)):=aaG _;rw[hg,abe];obtain⟨v',h5,h6⟩:=aV.get (j%i.size) hv hg;simp at h5 Hd;rw[Hd]at h5;simp only[aaC]at h5;subst h5;exact h6
      ·cases hx
 ·cases h
end
end Fw
/-
  Every operation that calls nothing.
-/
namespace Fw
open Go
section
variable {P:Program}{a:Act}{o:Oper}{g:G}{w:World}{ρ:ba→V}{H:ai}{ns:Nat}
theorem C7{t:TypeId}{x:Operand}{x':ba}{k:ll}{v:V}{c:Call}(ho:o.op=.call c)(hc:c.callee=.builtin .len)(gR:c.args.toList=[x])(yR:c.argTypes.toList=[t])(hx:av x=some x')(hk:G9 P t k∨∃n e,k=.arr n∧P.underlying t=some (.array n e)){wr:Wr}(h:bw ρ H ns (.len k x')=some (v,wr))(ev:Ev ρ a g w)(hh:az g w H):Good P a o g w ns v (aZ H wr):=by
 obtain⟨callee,args,ts⟩:=c;have e1:args= #[x]:=abL.1 (by simpa using gR);have e2:ts= #[t]:=abL.1 (by simpa using yR);simp only at hc;subst hc;subst e1;subst e2;have Ep:∀n:Int,(Builtin.len_ #[t] o.type #[a.eval x]).run P w=.ok (goInt n) w→(execOp a.eval o).run P w=.ok (.value (goInt n)) w:=by intro n hn;simp[execOp,ho,resolve,invoke,builtin,hn]
 have fin:∀n:Nat,(Builtin.len_ #[t] o.type #[a.eval x]).run P w=.ok (goInt n) w→Good P a o g w ns (.d (.int .i64 n)) H:=fun n hn=>Good.val hh (Ep _ hn) (RV.A4 _ _)
 rcases hk with hk|⟨n,e,rfl,hn⟩
 ·cases k with
   |arr=>exact hk.elim
   |str=>
    simp only[bw]at h;split at h
    ·rename_i n hn;simp only[aaC,aaF]at h;obtain⟨rfl,rfl⟩:=h;exact fin n (wS hn (ev _ _ hx) hh hk)
    ·cases h
   |slice=>
    simp only[bw]at h;split at h
    ·rename_i n hn;simp only[aaC,aaF]at h;obtain⟨rfl,rfl⟩:=h;exact fin n (wS hn (ev _ _ hx) hh hk)
    ·cases h
   |map=>
    simp only[bw]at h;split at h
    ·rename_i n hn;simp only[aaC,aaF]at h;obtain⟨rfl,rfl⟩:=h;exact fin n (wS hn (ev _ _ hx) hh hk)
    ·cases h
 ·simp only[bw,aaC,aaF]at h;obtain⟨rfl,rfl⟩:=h;exact fin n (by simp[Builtin.len_,run_underlying hn])
theorem He{c:Call}{io:kI}{v:V}{wr:Wr}(ho:o.op=.call c)(hc:dR P c=some io)(he:bw ρ H ns io=some (v,wr))(ev:Ev ρ a g w)(hh:az g w H)(jt:js g ns):Good P a o g w ns v (aZ H wr):=by
 unfold dR at hc;split at hc
 ·rename_i fe;split at hc
  ·rename_i x t gR yR;split at hc
   ·rename_i hu;simp only[aaE]at hc;obtain⟨x',hx,rfl⟩:=hc;exact C7 (k:=.str) ho fe gR yR hx (.inl hu) he ev hh
   ·rename_i e hu;simp only[aaE]at hc;obtain⟨x',hx,rfl⟩:=hc;exact C7 (k:=.slice) ho fe gR yR hx (.inl ⟨e,hu⟩) he ev hh
   ·rename_i k e hu;simp only[aaE]at hc;obtain⟨x',hx,rfl⟩:=hc;exact C7 (k:=.map) ho fe gR yR hx (.inl ⟨k,e,hu⟩) he ev hh
   ·rename_i n e hu;simp only[aaE]at hc;obtain⟨x',hx,rfl⟩:=hc;exact C7 ho fe gR yR hx (.inr ⟨n,e,rfl,hu⟩) he ev hh
   ·cases hc
  ·cases hc
 ·rename_i fe;split at hc
  ·rename_i x y t u gR yR;split at hc
   ·rename_i e k hu GF;split at hc
    ·rename_i i z x' y' hi hz hx hy;simp only[aaC]at hc;subst hc;obtain⟨callee,args,ts⟩:=c;have e1:args= #[x,y]:=abL.1 (by simpa using gR);have e2:ts= #[t,u]:=abL.1 (by simpa using yR);simp only at fe;subst fe;subst e1;subst e2;exact Ey ho hu GF hi hz hx hy he ev hh jt
    ·cases hc
   ·rename_i e d hni hu GF;split at hc
    ·rename_i i z x' y' hd hi hz hx hy;split at hc
     ·rename_i gQ;simp only[aaC]at hc;subst hc;simp only[bw]at he;split at he
      ·rename_i xs Eh;obtain⟨callee,args,ts⟩:=c;have e1:args= #[x,y]:=abL.1 (by simpa using gR);have e2:ts= #[t,u]:=abL.1 (by simpa using yR);simp only at fe;subst fe;subst e1;subst e2;refine G' ho rfl hu ?_ hi hz gQ.1 gQ.2 hx hy Eh he ev hh jt;cases d<;>simp[QU]at hd
       ·exact .inr GF
       ·exact .inl ⟨_,GF⟩
      ·cases he
     ·cases hc
    ·cases hc
   ·cases hc
  ·cases hc
 ·rename_i fe;split at hc
  ·rename_i x t gR yR;split at hc
   ·rename_i e hu;simp only[aaE]at hc;obtain⟨x',hx,rfl⟩:=hc;obtain⟨callee,args,ts⟩:=c;have e1:args= #[x]:=abL.1 (by simpa using gR);have e2:ts= #[t]:=abL.1 (by simpa using yR);simp only at fe;subst fe;subst e1;subst e2;exact Rc ho hu hx he ev hh
   ·cases hc
  ·cases hc
 ·rename_i fe;simp only[aaE]at hc;obtain⟨l,hl,rfl⟩:=hc;have hH:wr=none:=by
   simp only[bw]at he;split at he
   ·simp only[aaE,aaF]at he;obtain⟨_,_,_,h⟩:=he;exact h.symm
   ·cases he
  subst hH;obtain⟨callee,args,ts⟩:=c;simp only at fe;subst fe;exact yO (isMax:=false) ho hl he ev hh
 ·rename_i fe;simp only[aaE]at hc;obtain⟨l,hl,rfl⟩:=hc;have hH:wr=none:=by
   simp only[bw]at he;split at he
   ·simp only[aaE,aaF]at he;obtain⟨_,_,_,h⟩:=he;exact h.symm
   ·cases he
  subst hH;obtain⟨callee,args,ts⟩:=c;simp only at fe;subst fe;exact yO (isMax:=true) ho hl he ev hh
 ·split at hc
  ·simp only[aaE]at hc;obtain⟨l,hl,rfl⟩:=hc;simp[bw]at he
  ·cases hc
 ·simp only[aaE]at hc;obtain⟨l,hl,rfl⟩:=hc;simp[bw]at he
 ·cases hc
theorem tg{io:kI}{v:V}{wr:Wr}(hc:bD P o.op=some io)(he:bw ρ H ns io=some (v,wr))(ev:Ev ρ a g w)(hh:az g w H)(jt:js g ns):Good P a o g w ns v (aZ H wr):=by
 unfold bD at hc;split at hc
 ·rename_i x ho;simp only[aaE]at hc;obtain⟨x',hx,rfl⟩:=hc;simp only[bw,aaC,aaF]at he;obtain⟨rfl,rfl⟩:=he;exact QV (.inl ho) hx ev hh
 ·rename_i x ho;simp only[aaE]at hc;obtain⟨x',hx,rfl⟩:=hc;simp only[bw,aaC,aaF]at he;obtain⟨rfl,rfl⟩:=he;exact QV (.inr ho) hx ev hh
 ·rename_i c x y ho;split at hc
  ·rename_i c' x' y' h1 h2 h3;simp only[aaC]at hc;subst hc;simp only[bw]at he;split at he
   ·rename_i b hb;simp only[aaC,aaF]at he;obtain⟨rfl,rfl⟩:=he;exact NG ho h1 h2 h3 hb ev hh
   ·cases he
  ·cases hc
 ·rename_i t ho;simp only[aaE]at hc;obtain⟨z,hz,rfl⟩:=hc;simp only[bw,aaC,aaF]at he;obtain⟨rfl,rfl⟩:=he;exact Kp ho hz hh jt
 ·rename_i t x ho;split at hc
  ·rename_i n x' hn hx;simp only[aaC]at hc;subst hc;simp only[bw]at he;cases gQ:(Nat.beq (bU (ρ x')).length n&&(bU (ρ x')).all dO)with
    |false=>rw[gQ]at he;cases he
    |true=>rw[gQ]at he;simp only[aaH,aaC,aaF]at he;simp only[aaD]at gQ;obtain⟨rfl,rfl⟩:=he;rw[←aaI gQ.1];exact QW ho hx gQ.2 ev hh jt
  ·cases hc
 ·rename_i t ps ho;split at hc
  ·rename_i fs z ht hz;split at hc
   ·rename_i GW nM;simp only[aaE]at hc;obtain⟨qs,hq,rfl⟩:=hc;simp only[bw,aaE,aaF]at he;obtain⟨cs,gZ,rfl,rfl⟩:=he;refine C2 ho hz (fun i zv parts hi yF=>?_ ) hq gZ ev hh;simp only[Program.built,hi,ht,yF,nM]
   ·cases hc
  ·rename_i n e z ht hz;split at hc
   ·rename_i ie Wj;simp only[aaE]at hc;obtain⟨qs,hq,rfl⟩:=hc;simp only[bw,aaE,aaF]at he;obtain⟨cs,gZ,rfl,rfl⟩:=he;refine C2 ho hz (fun i zv parts hi yF=>?_ ) hq gZ ev hh;simp only[Program.built,hi,ht,yF,Wj]
   ·cases hc
  ·cases hc
 ·rename_i t len ps ho;split at hc
  ·rename_i e ht;split at hc
   ·rename_i s z hs hz;split at hc
    ·rename_i gQ;simp only[aaE]at hc;obtain⟨qs,hq,rfl⟩:=hc;simp only[bw]at he;cases Qi:(Nat.beq ((List.range (len*s)).map fun i=>z.getD (i%s) .any).length (len*s)&&((List.range (len*s)).map fun i=>z.getD (i%s) .any).all dO)with
      |false=>rw[Qi]at he;cases he
      |true=>rw[Qi]at he;simp only[aaH,aaE,aaF]at he;obtain⟨cs,gZ,rfl,rfl⟩:=he;obtain⟨k1,k2⟩:=Ef ho ht hs hz gQ.1 gQ.2.1 gQ.2.2 hq gZ ev hh jt;rw[k2]at k1;exact k1
    ·cases hc
   ·cases hc
  ·cases hc
 ·rename_i t x ho;split at hc
  ·rename_i n b x' hn hb hx;split at hc
   ·simp only[aaC]at hc;subst hc;simp only[bw]at he;split at he
    ·rename_i cs gZ;simp only[aaE,aaF]at he;obtain⟨v',fI,rfl,rfl⟩:=he;exact NH ho hn hb hx gZ fI ev hh
    ·cases he
   ·cases hc
  ·cases hc
 ·rename_i t x y ho;split at hc
  ·rename_i n x' y' hn hx hy;simp only[aaC]at hc;subst hc;simp only[bw,aaE,aaF]at he;obtain⟨H2,h2,rfl,rfl⟩:=he;exact Kr ho hn hx hy h2 ev hh
  ·cases hc
 ·rename_i x ho;simp only[aaE]at hc;obtain⟨x',hx,rfl⟩:=hc;have hH:wr=none:=by simp only[bw]at he;split at he<;>simp only[aaC,aaF,reduceCtorEq]at he<;>exact he.2.symm
  subst hH;exact G3 ho hx he ev hh
 ·rename_i op t x y yt ho;split at hc
  ·rename_i x' y' hx hy;have Hf:∀{io:kI},io=.bin op x' y'→bw ρ H ns io=some (v,wr)→Good P a o g w ns v (aZ H wr):=by rintro io rfl he;simp only[bw,aaE,aaF]at he;obtain⟨v',fI,rfl,rfl⟩:=he;exact QX ho hx hy fI ev hh
   have heq:∀{io:kI}{k:qm}{neg:Bool},io=.eq neg k x' y'→bw ρ H ns io=some (v,wr)→((op=.eql∧neg=false)∨(op=.neq∧neg=true))→(match k with| .bool=>P.underlying t=some .bool| .ptr=>∃e,P.underlying t=some (.pointer e)| .iface=>(∃e,P.underlying t=some (.interface e))∧((∃c,x=.const c)∨∃c,y=.const c)| .slice=>∃e,P.underlying t=some (.slice e)| .func=>∃s:Array TypeId×Array TypeId×Bool,P.underlying t=some (.func s.1 s.2.1 s.2.2))→Good P a o g w ns v (aZ H wr):=by rintro io k neg rfl he eH hk;simp only[bw,aaE,aaF]at he;obtain⟨b,hb,rfl,rfl⟩:=he;exact V5 ho eH hk hx hy hb ev hh
   split at hc
   ·split at hc
    ·simp only[aaC]at hc;exact Hf hc.symm he
    ·simp only[aaC]at hc;exact Hf hc.symm he
    ·rename_i hu;simp only[aaC]at hc;exact heq hc.symm he (.inl ⟨rfl,rfl⟩) hu
    ·rename_i e hu;simp only[aaC]at hc;exact heq hc.symm he (.inl ⟨rfl,rfl⟩) ⟨e,hu⟩
    ·rename_i e hu;simp only[aaC]at hc;exact heq hc.symm he (.inl ⟨rfl,rfl⟩) ⟨e,hu⟩
    ·rename_i p q r hu;simp only[aaC]at hc;exact heq hc.symm he (.inl ⟨rfl,rfl⟩) ⟨(p,q,r),hu⟩
    ·rename_i fs hu;simp only[aaE]at hc;obtain⟨ks,Er,rfl⟩:=hc;simp only[bw]at he;split at he
     ·rename_i us e1;split at he
      ·rename_i vs e2;split at he
       ·rename_i r NV;simp only[aaC,aaF]at he;obtain⟨rfl,rfl⟩:=he;exact MK ho (.inl ⟨rfl,rfl⟩) Er hx hy e1 e2 NV ev hh
       ·cases he
      ·cases he
     ·cases he
    ·rename_i e hu;split at hc
     ·simp only[aaC]at hc;exact heq hc.symm he (.inl ⟨rfl,rfl⟩) ⟨⟨e,hu⟩,.inl ⟨_,rfl⟩⟩
     ·simp only[aaC]at hc;exact heq hc.symm he (.inl ⟨rfl,rfl⟩) ⟨⟨e,hu⟩,.inr ⟨_,rfl⟩⟩
     ·cases hc
    ·cases hc
   ·split at hc
    ·simp only[aaC]at hc;exact Hf hc.symm he
    ·simp only[aaC]at hc;exact Hf hc.symm he
    ·rename_i hu;simp only[aaC]at hc;exact heq hc.symm he (.inr ⟨rfl,rfl⟩) hu
    ·rename_i e hu;simp only[aaC]at hc;exact heq hc.symm he (.inr ⟨rfl,rfl⟩) ⟨e,hu⟩
    ·rename_i e hu;simp only[aaC]at hc;exact heq hc.symm he (.inr ⟨rfl,rfl⟩) ⟨e,hu⟩
    ·rename_i p q r hu;simp only[aaC]at hc;exact heq hc.symm he (.inr ⟨rfl,rfl⟩) ⟨(p,q,r),hu⟩
    ·rename_i fs hu;simp only[aaE]at hc;obtain⟨ks,Er,rfl⟩:=hc;simp only[bw]at he;split at he
     ·rename_i us e1;split at he
      ·rename_i vs e2;split at he
       ·rename_i r NV;simp only[aaC,aaF]at he;obtain⟨rfl,rfl⟩:=he;exact MK ho (.inr ⟨rfl,rfl⟩) Er hx hy e1 e2 NV ev hh
       ·cases he
      ·cases he
     ·cases he
    ·rename_i e hu;split at hc
     ·simp only[aaC]at hc;exact heq hc.symm he (.inr ⟨rfl,rfl⟩) ⟨⟨e,hu⟩,.inl ⟨_,rfl⟩⟩
     ·simp only[aaC]at hc;exact heq hc.symm he (.inr ⟨rfl,rfl⟩) ⟨⟨e,hu⟩,.inr ⟨_,rfl⟩⟩
     ·cases hc
    ·cases hc
   ·simp only[aaC]at hc;exact Hf hc.symm he
  ·cases hc
 ·rename_i op t x ho;simp only[aaE]at hc;obtain⟨x',hx,rfl⟩:=hc;simp only[bw,aaE,aaF]at he;obtain⟨v',fI,rfl,rfl⟩:=he;exact V7 ho hx fI ev hh
 ·rename_i s d x ho;split at hc
  ·rename_i k0 k x' hs hd hx;simp only[aaC]at hc;subst hc;simp only[bw]at he;split at he
   ·rename_i k1 n e;simp only[aaC,aaF]at he;obtain⟨rfl,rfl⟩:=he;exact NI ho hs hd hx e ev hh
   ·cases he
  ·rename_i x' hs hd hx;simp only[aaC]at hc;subst hc;simp only[bw]at he;split at he
   ·rename_i l e;simp only[aaC,aaF]at he;obtain⟨rfl,rfl⟩:=he;exact NJ ho hs hd hx e ev hh
   ·cases he
  ·rename_i el x' hs hd hx;split at hc
   ·rename_i KE;simp only[aaC]at hc;subst hc;simp only[bw]at he;split at he
    ·rename_i l e;simp only[aaC,aaF]at he;obtain⟨rfl,rfl⟩:=he;exact Be ho hs hd KE hx e ev hh
    ·cases he
   ·cases hc
  ·cases hc
 ·rename_i f p q ho;split at hc
  ·rename_i p' q' hp hq;simp only[aaC]at hc;subst hc;simp only[bw,aaC,aaF]at he;obtain⟨rfl,rfl⟩:=he;exact G8 ho hp hq ev hh
  ·cases hc
 ·rename_i t ho;simp only[aaC]at hc;subst hc;simp only[bw,aaC,aaF]at he;obtain⟨rfl,rfl⟩:=he;exact Kw ho hh jt
 ·rename_i t l c ho;split at hc
  ·rename_i e l' c' ht hl Qi;split at hc
   ·rename_i i z hi hz;simp only[aaC]at hc;subst hc;exact KD ho ht hi hz hl Qi he ev hh jt
   ·cases hc
  ·cases hc
 ·rename_i t x lo hi ho;split at hc
  ·rename_i x' uR lv hx jS jw;split at hc
   ·rename_i ht;simp only[aaC]at hc;subst hc;simp only[bw]at he;split at he
    ·rename_i s e;simp only[aaE]at he;obtain⟨⟨l,h⟩,hb,he⟩:=he;simp only[aaF]at he;obtain⟨rfl,rfl⟩:=he;exact G4 ho ht hx jS jw e hb ev hh
    ·cases he
   ·rename_i el ht;simp only[aaE]at hc;obtain⟨s,hs,rfl⟩:=hc;simp only[bw]at he;split at he
    ·rename_i es e;cases hl:es.all (fun e=>Nat.beq e.length s)with
      |false=>rw[hl]at he;cases he
      |true=>rw[hl]at he;simp only[aaH,aaE]at he;obtain⟨⟨l,h⟩,hb,he⟩:=he;simp only[aaF]at he;obtain⟨rfl,rfl⟩:=he;exact G5 ho ht hs hx jS jw e hl hb ev hh
    ·rename_i b NB off len uQ e;cases hl:(Nat.beq s uQ&&ef H b NB)with
      |false=>rw[hl]at he;cases he
      |true=>rw[hl]at he;simp only[aaH,aaE]at he;obtain⟨⟨l,h⟩,GJ,he⟩:=he;simp only[aaF]at he;obtain⟨rfl,rfl⟩:=he;simp only[aaD]at hl;have:=aaI hl.1;subst this;exact Ej ho ht hs hx jS jw e hl.2 GJ ev hh
    ·rename_i e;simp only[aaE]at he;obtain⟨⟨l,h⟩,GJ,he⟩:=he;simp only[aaF]at he;obtain⟨rfl,rfl⟩:=he;exact Ek ho ht hs hx jS jw e GJ ev hh
    ·cases he
   ·rename_i n el ht;simp only[aaE]at hc;obtain⟨s,hs,rfl⟩:=hc;simp only[bw]at he;split at he
    ·rename_i b NB off e;cases hl:(ef H b NB&&Nat.ble (off+n*s) NB&&Nat.blt 0 NB)with
      |false=>rw[hl]at he;cases he
      |true=>rw[hl]at he;simp only[aaH,aaE]at he;obtain⟨⟨l,h⟩,GJ,he⟩:=he;simp only[aaF]at he;obtain⟨rfl,rfl⟩:=he;simp only[aaD]at hl;exact G6 ho ht hs hx jS jw e hl.1.1 (aaM hl.1.2) (by have:=hl.2;rwa[aaT]at this) GJ ev hh
    ·cases he
   ·cases hc
  ·cases hc
 ·rename_i s x f ho;split at hc
  ·rename_i fs x' ht hx;split at hc
   ·rename_i off n hf;split at hc
    ·rename_i h0;simp only[aaC]at hc;subst hc;have hH:wr=none:=by simp only[bw]at he;split at he<;>simp only[aaC,aaF,reduceCtorEq]at he<;>exact he.2.symm
     subst hH;exact Ku ho ht hf h0 hx he ev hh
    ·cases hc
   ·cases hc
  ·cases hc
 ·rename_i s x f ho;split at hc
  ·rename_i fs x' ht hx;split at hc
   ·rename_i fd V9;split at hc
    ·rename_i n b hn hb;split at hc
     ·rename_i h1;simp only[aaC]at hc;subst hc;simp only[bw]at he;split at he
      ·rename_i cs e;cases hl:Nat.ble (fd.offset+n) cs.length with
        |false=>rw[hl]at he;cases he
        |true=>rw[hl]at he;simp only[aaH,aaE,aaF]at he;obtain⟨v',fI,rfl,rfl⟩:=he;exact QY ho ht V9 hn hb h1 hx e (aaM hl) fI ev hh
      ·cases he
     ·cases hc
    ·cases hc
   ·cases hc
  ·cases hc
 ·rename_i t x i ho;split at hc
  ·rename_i x' i' hx hi;split at hc
   ·rename_i e ht;simp only[aaE]at hc;obtain⟨s,hs,rfl⟩:=hc;have hH:wr=none:=by
     simp only[bw]at he;split at he
     ·cases he
     ·split at he
      ·split at he
       ·rename_i d _;cases hq:Nat.beq d.length s<;>simp[hq]at he;exact he.2.symm
       ·cases he
      ·rename_i b hb off len uQ _;cases hq:(Nat.beq s uQ&&Nat.blt _ len&&ef H b hb)<;>rw[hq]at he<;>simp at he;exact he.2.symm
      ·cases he
    subst hH;exact Kv ho ht hs hx hi he ev hh
   ·rename_i n e ht;simp only[aaE]at hc;obtain⟨s,hs,rfl⟩:=hc;have hH:wr=none:=by
     simp only[bw]at he;split at he
     ·cases he
     ·rename_i j _;cases hq:Nat.blt j n with
       |false=>rw[hq]at he;cases he
       |true=>rw[hq]at he;simp only[aaH]at he;split at he<;>simp only[aaC,aaF,reduceCtorEq]at he<;>exact he.2.symm
    subst hH;exact G7 ho ht hs hx hi he ev hh
   ·cases hc
  ·cases hc
 ·rename_i t x i ho;split at hc
  ·rename_i x' i' hx hi;split at hc
   ·rename_i ht;simp only[aaC]at hc;subst hc;have hH:wr=none:=by
     simp only[bw]at he;split at he
     ·cases he
     ·split at he
      ·split at he<;>simp only[aaC,aaF,reduceCtorEq]at he;exact he.2.symm
      ·cases he
    subst hH;exact NL ho ht hx hi he ev hh
   ·rename_i n e ht;split at hc
    ·rename_i s b hs hb;split at hc
     ·rename_i h1;simp only[aaC]at hc;subst hc;simp only[bw]at he;split at he
      ·cases he
      ·rename_i j ej;split at he
       ·rename_i cs e';cases hl:(Nat.blt j n&&Nat.ble (n*s) cs.length)with
         |false=>rw[hl]at he;cases he
         |true=>rw[hl]at he;simp only[aaH,aaE,aaF]at he;simp only[aaD]at hl;obtain⟨v',fI,rfl,rfl⟩:=he;exact NM ho ht hs hb h1 hx hi ej e' (by have:=hl.1;rwa[aaT]at this) (aaM hl.2) fI ev hh
       ·cases he
     ·cases hc
    ·cases hc
   ·cases hc
  ·cases hc
 ·rename_i x i ho;simp only[aaE]at hc;obtain⟨x',hx,rfl⟩:=hc;simp only[bw]at he;split at he
  ·rename_i vs e;simp only[aaE,aaF]at he;obtain⟨v',fI,rfl,rfl⟩:=he;exact Q1 ho hx e fI ev hh
  ·cases he
 ·rename_i t x ho;split at hc
  ·cases hc
  ·rename_i d x' hni ht hx;simp only[aaC]at hc;subst hc;simp only[bw,aaC,aaF]at he;obtain⟨rfl,rfl⟩:=he;exact Eo ho ht (fun m hm=>hni m hm) hx ev hh
  ·cases hc
 ·rename_i t m k ok ho;have hl:∀{kk:cJ}{z:V}{m' k':ba},bw ρ H ns (.lookup kk z ok m' k')=some (v,wr)→wr=none:=by
   intro kk z m' k' he;simp only[bw]at he;split at he
   ·rename_i kd _;cases hq:eW kk kd with
     |false=>rw[hq]at he;cases he
     |true=>
      rw[hq]at he;simp only[aaH]at he;split at he
      ·split at he<;>simp only[aaC,aaF,reduceCtorEq]at he<;>exact he.2.symm
      ·cases he
   ·cases he
  split at hc
  ·rename_i kt e m' k' ht hm hk;split at hc
   ·rename_i z q hz nT;simp only[aaC]at hc;subst hc;have:=hl he;subst this;exact tc (kk:=.int) ho ht ⟨q,nT⟩ hz hm hk he ev hh
   ·rename_i z hz nT;simp only[aaC]at hc;subst hc;have:=hl he;subst this;exact tc (kk:=.str) ho ht nT hz hm hk he ev hh
   ·rename_i z hz nT;simp only[aaC]at hc;subst hc;have:=hl he;subst this;exact tc (kk:=.bool) ho ht nT hz hm hk he ev hh
   ·cases hc
  ·cases hc
 ·rename_i t m k x ho;split at hc
  ·rename_i kt e m' k' x' ht hm hk hx;split at hc
   ·rename_i q nT;simp only[aaC]at hc;subst hc;exact tf (kk:=.int) ho ht ⟨q,nT⟩ hm hk hx he ev hh
   ·rename_i nT;simp only[aaC]at hc;subst hc;exact tf (kk:=.str) ho ht nT hm hk hx he ev hh
   ·rename_i nT;simp only[aaC]at hc;subst hc;exact tf (kk:=.bool) ho ht nT hm hk hx he ev hh
   ·cases hc
  ·cases hc
 ·rename_i t x ho;split at hc
  ·rename_i kt el ht;simp only[aaE]at hc;obtain⟨x',hx,rfl⟩:=hc;exact Kx ho ht hx he ev hh jt
  ·cases hc
 ·rename_i it s ho;split at hc
  ·cases hc
  ·simp only[aaE]at hc;obtain⟨x',hx,rfl⟩:=hc;simp[bw]at he
 ·rename_i it ho;simp only[aaE]at hc;obtain⟨x',hx,rfl⟩:=hc;exact Kz ho hx he ev hh
 ·rename_i c ho;exact He ho hc he ev hh jt
 ·cases hc
end
end Fw
/-
  A box that nobody writes any more is known as data from then on.
-/
namespace Fw
open Go
theorem ja(sz n:Nat)(l:List D):(eV sz n l).length=n:=by
 induction n generalizing l with
  |zero=>rfl
  |succ n ih=>simp[eV,ih]
theorem dx.nr{w:World}{im:Nat→Prop}{aT:Nat}:∀{ds:List D}{vs:List Value}{off:Nat},ds.length=vs.length→(∀(j:Nat)(d:D)(v:Value),ds[j]? =some d→vs[j]? =some v→Rd w im d v)→(∀(j:Nat)(v:Value),vs[j]? =some v→w.cell? ⟨aT,off+j,none⟩=some v)→dx w im aT off ds
 |[],_,_,_,_,_=>by simp only[dx]
 |d::ds,[],_,hl,_,_=>by simp at hl
 |d::ds,v::vs,off,hl,h1,h2=>by simp only[dx];refine⟨⟨v,by have:=h2 0 v rfl;simpa using this,h1 0 d v rfl rfl⟩,dx.nr (vs:=vs) (by simpa using hl) (fun j d' v' hd hv=>h1 (j+1) d' v' (by simpa using hd) (by simpa using hv)) (fun j v' hv=>?_ )⟩;have:=h2 (j+1) v' (by simpa using hv);rwa[show off+(j+1)=off+1+j by omega]at this
theorem dx.take{w:World}{im:Nat→Prop}{aT:Nat}:∀(k:Nat)(ds:List D)(q:Nat),dx w im aT q ds→dx w im aT q (ds.take k):=by
 intro k ds;induction ds generalizing k with
  |nil=>intro q _;simp[dx]
  |cons d ds ih=>
   intro q hq;cases k with
    |zero=>simp[dx]
    |succ k=>simp only[acW,dx]at hq⊢;exact⟨hq.1,ih k _ hq.2⟩
theorem od{w:World}{im:Nat→Prop}{aT sz:Nat}:∀{n:Nat}{off:Nat}{l:List D},n*sz≤l.length→dx w im aT off l→iO w im aT off sz (eV sz n l)
 |0,_,_,_,_=>by simp only[eV,iO]
 |n+1,off,l,hl,h=>by
  simp only[eV,iO];have hle:sz≤l.length:=by rw[abu]at hl;omega
  refine⟨by simp;omega,dx.take _ _ _ h,?_ ⟩;exact od (by simp;rw[abu]at hl;omega) (dx.drop sz h)
mutual
def bP(b:Nat)(ds:List D):V→V| .ptr c h off=>bif Nat.beq c b then(bif Nat.beq h ds.length then .ct (ds.drop off)else .any)else .ptr c h off| .sl c h off len sz=>bif Nat.beq c b then(bif Nat.beq h ds.length&&Nat.ble (off+len*sz) h then .d (.list (eV sz len (ds.drop off)))else .any)else .sl c h off len sz| .map c=>bif Nat.beq c b then .any else .map c| .iter c m=>bif Nat.beq c b then .any else .iter c m| .func f a c=>.func f (gN b ds a) (gN b ds c)| .iface t v=>.iface t (bP b ds v)| .agg cs=>.agg (gN b ds cs)| .tuple vs=>.tuple (gN b ds vs)|v=>v
def gN(b:Nat)(ds:List D):List V→List V|[]=>[]|v::vs=>bP b ds v::gN b ds vs
end
def eM(b:Nat)(ds:List D):eG→eG
 | .cells cs=>.cells (gN b ds cs)
 | .map es=>.map (es.map fun p=>(p.1,bP b ds p.2))
 |x=>x
def ff(b:Nat)(ds:List D)(n:Nat):ai→ai|[]=>[]|x::H=>(bif Nat.beq n b then none else x.map (eM b ds))::ff b ds (n+1) H
def fD:Option eG→Bool|some (.cells cs)=>cs.all dO|_=>true
def sb(H:ai)(b:Nat):Option (List D):=match aE H b with
 |some (.cells cs)=>ep cs
 |some .nil=>some []
 |_=>none
def G.del(g:G)(b:Nat):G:=⟨g.cR,fun c=>if c=b then none else g.γ c,g.fo⟩
theorem qt(b:Nat)(ds:List D):∀(H:ai)(n c:Nat),aE (ff b ds n H) c=if n+c=b then none else(aE H c).map (eM b ds)
 |[],n,c=>by simp[ff,aE]
 |x::H,n,0=>by
  simp only[ff,aE,abN];by_cases h:n=b
  ·subst h;simp
  ·simp[h,cG h]
 |x::H,n,c+1=>by simp only[ff,aE];rw[qt b ds H (n+1) c];simp only[show n+1+c=n+(c+1) by omega]
theorem rE(b:Nat)(ds:List D):∀(H:ai)(n:Nat),(ff b ds n H).length=H.length|[],_=>rfl|x::H,n=>by simp[ff,rE b ds H (n+1)]
theorem nt{g:G}{w:World}{b k:Nat}(h:dq g w k):dq (g.del b) w k:=by
 refine⟨h.1,h.2.1,fun c x hx=>?_ ⟩;simp only[G.del]at hx;split at hx
 ·cases hx
 ·exact h.2.2 c x hx
theorem jy:∀{cs:List V}{ds:List D},ep cs=some ds→cs.length=ds.length∧∀(i:Nat)(d:D),ds[i]? =some d→cs[i]? =some (.d d)∨(cs[i]? =some .ab∧d=.list [])
 |[],ds,h=>by simp only[ep,aaC]at h;subst h;simp
 |c::cs,ds,h=>by
  cases c with
   |d x=>
    simp only[ep,aaE]at h;obtain⟨ds',h1,rfl⟩:=h;obtain⟨h2,h3⟩:=jy h1;refine⟨by simp[h2],fun i d hd=>?_ ⟩;cases i with
     |zero=>simp at hd;subst hd;left;rfl
     |succ i=>simp at hd⊢;exact h3 i d hd
   |ab=>
    simp only[ep,aaE]at h;obtain⟨ds',h1,rfl⟩:=h;obtain⟨h2,h3⟩:=jy h1;refine⟨by simp[h2],fun i d hd=>?_ ⟩;cases i with
     |zero=>simp at hd;subst hd;right;exact⟨rfl,rfl⟩
     |succ i=>simp at hd⊢;exact h3 i d hd
   |_=>simp[ep]at h
def th(g:G)(w:World)(b:Nat)(ds:List D):Prop:=match g.γ b with
 |some (.cells aT _ cur)=>cur=ds.length∧dq (g.del b) w aT∧dx w (dq (g.del b) w) aT 0 ds
 |some .nil=>ds=[]
 |_=>False
theorem Hg{g:G}{w:World}{H:ai}{b:Nat}{ds:List D}(hh:az g w H)(h:sb H b=some ds):th g w b ds:=by
 unfold sb at h;split at h
 ·rename_i cs hg;obtain⟨x,hx⟩:=hh.back b _ hg;obtain⟨_,y,hy,hr⟩:=hh.live b x hx;rw[hg]at hy;simp only[aaC]at hy;subst hy;obtain⟨hl,ML⟩:=jy h;unfold th;rw[hx];cases x with
   |cells aT cp cur=>
    have bS:=hr.lt aT rfl;have C1:=hh.vp hx rfl;simp only[RB]at hr;obtain⟨r1,r2,r3,c,e,r4,r5,r6⟩:=hr;have ti:dq (g.del b) w aT:=by
     refine⟨bS,C1,fun c' x' g_ hk=>?_ ⟩;simp only[G.del]at g_;split at g_
     ·cases g_
     ·rename_i et;exact et (hh.inj c' b x' _ aT g_ hx hk rfl)
    refine⟨by omega,ti,?_ ⟩;have Wt:=r6.length;refine dx.nr (vs:=c.toList.take cs.length) (by omega) (fun j d v hd hv=>?_ ) (fun j v hv=>?_ )
    ·rcases ML j d hd with hc|⟨hc,rfl⟩
     ·obtain⟨v',fI,Ei⟩:=aV.get j r6 hc;rw[hv]at fI;simp only[aaC]at fI;subst fI;simp only[RV]at Ei;exact Rd.keeps (fun k hk=>⟨nt hk,rfl⟩) _ _ Ei
     ·obtain⟨v',fI,Ei⟩:=aV.get j r6 hc;rw[hv]at fI;simp only[aaC]at fI;subst fI;simp only[RV]at Ei;subst Ei;simp[Rd]
    ·rw[abd]at hv;split at hv
     ·simp only[World.cell?,r4];simpa using hv
     ·cases hv
   |nil=>simp only[RB]at hr
   |obj=>simp only[RB]at hr
 ·rename_i hg;simp only[aaC]at h;subst h;obtain⟨x,hx⟩:=hh.back b _ hg;obtain⟨_,y,hy,hr⟩:=hh.live b x hx;rw[hg]at hy;simp only[aaC]at hy;subst hy;unfold th;rw[hx];cases x<;>simp[RB]at hr⊢
 ·cases h
mutual
theorem RV.oe{g:G}{w:World}{b:Nat}{ds:List D}(hf:th g w b ds):∀(u:V)(v:Value),RV g w u v→RV (g.del b) w (bP b ds u) v
 | .any,_,_=>by simp only[bP,RV]
 | .d x,v,hv=>by simp only[bP,RV]at hv⊢;exact Rd.keeps (fun k hk=>⟨nt hk,rfl⟩) _ _ hv
 | .ab,_,hv=>by simpa only[bP,RV]using hv
 | .ptr c h off,v,hv=>by
  simp only[bP];by_cases hc:c=b
  ·subst hc;simp only[aa0,aaH];cases hb:Nat.beq h ds.length with
    |false=>simp only[aaX,RV]
    |true=>
     simp only[aaH];have he:=aaI hb;simp only[RV]at hv⊢;unfold th at hf;split at hf
     ·rename_i aT cp cur yw;obtain⟨f1,f2,f3⟩:=hf;obtain⟨Em,cp',yJ,e1,e2,e3⟩:=hv.2 _ yw;simp only[GB.cells.injEq]at e1;obtain⟨rfl,rfl,rfl⟩:=e1;exact⟨aT,off,e2 (by omega),fun _=>f2,by simpa using dx.drop off f3⟩
     ·rename_i yw;obtain⟨Em,cp',yJ,e1,e2,e3⟩:=hv.2 _ yw;cases e1
     ·exact hf.elim
  ·rw[cG hc,aaX];simp only[RV]at hv⊢;exact⟨hv.1,fun x hx=>hv.2 x (by simpa[G.del,hc]using hx)⟩
 | .jU,_,hv=>by simpa only[bP,RV]using hv
 | .ct cs,v,hv=>by
  simp only[bP,RV]at hv⊢;obtain⟨aT,off,h1,h2,h3⟩:=hv;refine⟨aT,off,h1,fun hn=>nt (h2 hn),?_ ⟩;cases cs with
   |nil=>simp only[dx]
   |cons c cs=>exact dx.keeps (im:=dq g w) (uZ:=dq (g.del b) w) (fun k hk=>⟨nt hk,rfl⟩) (h2 (by simp)) _ _ h3
 | .sl c h off len sz,v,hv=>by
  simp only[bP];by_cases hc:c=b
  ·subst hc;simp only[aa0,aaH];cases hb:(Nat.beq h ds.length&&Nat.ble (off+len*sz) h)with
    |false=>simp only[aaX,RV]
    |true=>
     simp only[aaH];simp only[aaD]at hb;have he:=aaI hb.1;have hle:=aaM hb.2;simp only[RV,Rd,ja]at hv⊢;unfold th at hf;split at hf
     ·rename_i aT cp cur yw;obtain⟨f1,f2,f3⟩:=hf;have hx:=hv.2 _ yw;obtain⟨cap,k1,k2,k3⟩:=hx.2 (by omega);right;exact⟨aT,off,cap,sz,k1,k2,fun _=>f2,od (by simp;omega) (by simpa using dx.drop off f3)⟩
     ·rename_i yw;have hx:=hv.2 _ yw;obtain⟨rfl,rfl,rfl,rfl⟩:=hx;left;exact⟨rfl,.inl rfl⟩
     ·exact hf.elim
  ·rw[cG hc,aaX];simp only[RV]at hv⊢;exact⟨hv.1,fun x hx=>hv.2 x (by simpa[G.del,hc]using hx)⟩
 | .map c,v,hv=>by
  simp only[bP];by_cases hc:c=b
  ·subst hc;simp only[aa0,aaH,RV]
  ·rw[cG hc,aaX];simp only[RV]at hv⊢;exact⟨hv.1,fun x hx=>hv.2 x (by simpa[G.del,hc]using hx)⟩
 | .mf,_,hv=>by simpa only[bP,RV]using hv
 | .func f a c,v,hv=>by simp only[bP,RV]at hv⊢;obtain⟨x,y,h1,h2,h3⟩:=hv;exact⟨x,y,h1,aV.oe hf _ _ h2,aV.oe hf _ _ h3⟩
 | .nK,_,hv=>by simpa only[bP,RV]using hv
 | .iface t u,v,hv=>by simp only[bP,RV]at hv⊢;obtain⟨x,h1,h2⟩:=hv;exact⟨x,h1,RV.oe hf _ _ h2⟩
 | .cd,_,hv=>by simpa only[bP,RV]using hv
 | .gX,_,hv=>by simpa only[bP,RV]using hv
 | .agg cs,v,hv=>by simp only[bP,RV]at hv⊢;obtain⟨x,h1,h2⟩:=hv;exact⟨x,h1,aV.oe hf _ _ h2⟩
 | .tuple vs,v,hv=>by simp only[bP,RV]at hv⊢;obtain⟨x,h1,h2⟩:=hv;exact⟨x,h1,aV.oe hf _ _ h2⟩
 | .iter c _,v,hv=>by
  simp only[bP];by_cases hc:c=b
  ·subst hc;simp only[aa0,aaH,RV]
  ·rw[cG hc,aaX];simp only[RV]at hv⊢;exact⟨hv.1,fun x hx=>hv.2 x (by simpa[G.del,hc]using hx)⟩
theorem aV.oe{g:G}{w:World}{b:Nat}{ds:List D}(hf:th g w b ds):∀(us:List V)(vs:List Value),aV g w us vs→aV (g.del b) w (gN b ds us) vs
 |[],[],_=>by simp only[gN,aV]
 |u::us,v::vs,hv=>by simp only[gN,aV]at hv⊢;exact⟨RV.oe hf _ _ hv.1,aV.oe hf _ _ hv.2⟩
 |[],_::_,hv=>by simp only[aV]at hv
 |_::_,[],hv=>by simp only[aV]at hv
end
theorem j9(b:Nat)(ds:List D):∀(l:List V),(gN b ds l).length=l.length|[]=>rfl|_::l=>by simp[gN,j9 b ds l]
theorem cr.oe{g:G}{w:World}{b:Nat}(g0:G)(w0:World)(h:cr g0 w0 g w):cr g0 w0 (g.del b) w:=⟨h.os,h.tape,h.output,h.size,fun k hk=>⟨nt (h.keeps k hk).1,(h.keeps k hk).2⟩,h.cR,fun c hc=>by
 simp only[G.del];split
 ·cases g0.γ c with
   |none=>simp only[GB.step]
   |some x=>cases x<;>simp only[GB.step]
 ·exact h.step c hc,h.fo,h.eQ⟩
theorem az.oe{g:G}{w:World}{H:ai}{b:Nat}{ds:List D}(hh:az g w H)(h:sb H b=some ds)(eF:(ff b ds 0 H).all fD=true):az (g.del b) w (ff b ds 0 H):=by
 have hf:=Hg hh h;refine⟨fun c hc=>by rw[rE];exact hh.cR c hc,fun c x hx=>?_,fun c y hy=>?_,fun c c' x x' k hx g_ hk iT=>?_,fun k hk=>⟨(hh.fo k hk).1,fun c x hx=>?_ ⟩⟩
 ·simp only[G.del]at hx;split at hx
  ·cases hx
  ·rename_i Wn;obtain⟨h1,y,h2,h3⟩:=hh.live c x hx;have hg:aE (ff b ds 0 H) c=some (eM b ds y):=by rw[qt,aaL (by omega),h2];rfl
   refine⟨h1,_,hg,?_⟩;cases x with
    |cells aT cp cur=>
     cases y with
      |cells cs=>
       simp only[RB,eM]at h3⊢;obtain⟨r1,r2,r3,cc,e,r4,r5,r6⟩:=h3;refine⟨by rw[j9];exact r1,?_,by rw[j9];exact r3,cc,e,r4,r5,?_ ⟩
       ·have hm:some (eG.cells (gN b ds cs))∈ff b ds 0 H:=by
         have:∀(H:ai)(c:Nat)(y:eG),aE H c=some y→some y∈H:=by
          intro H;induction H with
           |nil=>intro c y hy;simp[aE]at hy
           |cons z H ih=>
            intro c y hy;cases c with
             |zero=>simp only[aE]at hy;subst hy;simp
             |succ c=>simp only[aE]at hy;exact ab0 _ (ih c y hy)
         exact this _ _ _ hg
        have:=aaR.1 eF _ hm;simpa[fD]using this
       ·rw[j9];exact aV.oe hf _ _ r6
      |_=>simp only[RB]at h3
    |nil=>cases y<;>simp only[RB,eM]at h3⊢
    |obj aT=>
     cases y with
      |map es=>simp only[RB,eM]at h3⊢;obtain⟨bO,clock,e1,e2,e3,e4,e5⟩:=h3;refine⟨bO,clock,e1,by simp[e2],fun i k v hi=>?_,e4,e5⟩;simp only[abf,aaE,aaF]at hi;obtain⟨⟨k',v'⟩,lv,rfl,rfl⟩:=hi;obtain⟨z,z1,z2,z3,z4⟩:=e3 i k' v' lv;exact⟨z,z1,z2,Rd.keeps (fun k hk=>⟨nt hk,rfl⟩) _ _ z3,RV.oe hf _ _ z4⟩
      |yD s pos=>simpa only[RB,eM]using h3
      |dK m n seen=>
       simp only[RB,eM]at h3⊢;obtain⟨mb,sa,e1,e2,e3,e4⟩:=h3;refine⟨mb,sa,e1,e2,e3,fun x hx=>e4 x ?_ ⟩;simp only[G.del]at hx;split at hx
       ·cases hx
       ·exact hx
      |_=>simp only[RB]at h3
 ·rw[qt]at hy;split at hy
  ·cases hy
  ·rename_i Wn;simp only[aaE]at hy;obtain⟨y',yI,rfl⟩:=hy;obtain⟨x,hx⟩:=hh.back c y' yI;exact⟨x,by simp only[G.del];rw[aaL (by omega)];exact hx⟩
 ·simp only[G.del]at hx g_;split at hx
  ·cases hx
  ·split at g_
   ·cases g_
   ·exact hh.inj c c' x x' k hx g_ hk iT
 ·simp only[G.del]at hx;split at hx
  ·cases hx
  ·exact(hh.fo k hk).2 c x hx
def j_(b:Nat)(σ:St):Option St:=match sb σ.hp b with
 |some ds=>bif (ff b ds 0 σ.hp).all fD then some ⟨σ.n,σ.tm.map fun p=>(p.1,bP b ds p.2),ff b ds 0 σ.hp⟩else none
 |none=>none
theorem lB(f:V→V)(hf:f .any=.any):∀(l:List (Nat×V))(t:Nat),get (l.map fun p=>(p.1,f p.2)) t=f (get l t)
 |[],t=>by simp[get,hf]
 |(s,u)::l,t=>by simp only[aaY,get,lB f hf l t];cases Nat.beq s t<;>rfl
theorem R.oe{GL:cj}{g:G}{w:World}{a:Act}{σ aS:St}{b:Nat}(h:R GL g w a σ)(hc:j_ b σ=some aS):R GL (g.del b) w a aS:=by
 unfold j_ at hc;split at hc
 ·rename_i ds ML;cases eF:(ff b ds 0 σ.hp).all fD with
   |false=>rw[eF]at hc;cases hc
   |true=>rw[eF]at hc;simp only[aaH,aaC]at hc;subst hc;refine⟨h.defers,h.size,fun t=>?_,h.heap.oe ML eF,h.eg.ext (cr.oe _ _ (cr.refl _ _))⟩;simp only;rw[lB (bP b ds) (by simp only[bP])];exact RV.oe (Hg h.heap ML) _ _ (h.tmps t)
 ·cases hc
def f_(ρ:ba→V):kI→Option V
 | .mkSlice sz len z ps=>
  match d_ ρ z ps with
   |some cs=>
    match ep cs with
     |some ds=>some (.d (.list (eV sz len ds)))
     |none=>none
   |none=>none
 |_=>none
section
variable {P:Program}{a:Act}{o:Oper}{g:G}{w:World}{ρ:ba→V}{H:ai}{ns:Nat}
theorem w5{op:Op}{sz len:Nat}{z:List V}{ps:List (Nat×Nat×ba)}(h:bD P op=some (.mkSlice sz len z ps)):∃t e z0 qs,op=.buildSlice t len qs∧P.underlying t=some (.slice e)∧gp P e=some sz∧dP P e=some z0∧len*sz≤2^24∧z0.length=sz∧0<sz∧dQ (fun i=>some (i*sz,sz)) qs.toList=some ps∧z=(List.range (len*sz)).map fun i=>z0.getD (i%sz) .any:=by
 cases op with
  |buildSlice t aax qs=>
   simp only[bD]at h;split at h
   ·rename_i e ht;split at h
    ·rename_i s z0 hs hz;split at h
     ·rename_i hc;simp only[aaE,kI.mkSlice.injEq]at h;obtain⟨q,hq,rfl,rfl,rfl,rfl⟩:=h;exact⟨t,e,z0,qs,rfl,ht,hs,hz,hc.1,hc.2.1,hc.2.2,hq,rfl⟩
     ·cases h
    ·cases h
   ·cases h
  |makeFunc fn a b=>exfalso;cases fn<;>(simp only[bD]at h;(repeat' split at h)<;>simp at h)
  |makeMap t r=>exfalso;cases r<;>(simp only[bD]at h;simp at h)
  |slice t x lo hi mx=>exfalso;cases mx<;>(simp only[bD]at h;(repeat' split at h)<;>simp at h)
  |call c=>exfalso;simp only[bD,dR]at h;(repeat' split at h)<;>simp at h
  |_=>exfalso;simp only[bD]at h;(repeat' split at h)<;>simp at h
theorem cr.NW{g:G}{w:World}{H:ai}(hh:az g w H)(o:Obj):cr g w g (w.alloc o)∧az g (w.alloc o) H∧dq g (w.alloc o) w.heap.size:=by
 have he:cr g w g (w.alloc o):=⟨rfl,rfl,rfl,by simp,fun k hk=>⟨⟨by have:=hk.1;simp;omega,hk.2⟩,cS _ _ hk.1⟩,fun _ h=>h,fun _ _=>GB.step.refl _,rfl,fun k hk=>cS _ _ (hh.fo k hk).1⟩;have jx:∀b x k,g.γ b=some x→x.own=some k→k<w.heap.size:=fun b x k hx hk=>by obtain⟨_,y,_,hr⟩:=hh.live b x hx;exact hr.lt k hk
 refine⟨he,hh.ext he (fun b x k hx hk=>cS _ _ (jx b x k hx hk)),by simp,fun h=>?_,fun b x hx hk=>?_ ⟩
 ·have:=(hh.fo _ h).1;omega
 ·have:=jx b x _ hx hk;omega
theorem qu{io:kI}{v:V}(eH:bD P o.op=some io)(he:f_ ρ io=some v)(ev:Ev ρ a g w)(hh:az g w H):∃w' x,(execOp a.eval o).run P w=.ok (.value x) w'∧RV g w' v x∧az g w' H∧cr g w g w':=by
 cases io with
  |mkSlice sz len z ps=>
   simp only[f_]at he;split at he
   ·rename_i cs gZ;split at he
    ·rename_i ds ML;simp only[aaC]at he;subst he;obtain⟨t,e,z0,qs,ho,hu,hs,hz,h1,h2,h3,hq,rfl⟩:=w5 eH;obtain⟨c',k1,k2,k3,k4⟩:=rC ho hu hs hz h1 h2 h3 hq gZ ev;obtain⟨f1,f2,f3⟩:=cr.NW hh (.cells c' e);refine⟨_,_,k4,?_,f2,f1⟩;simp only[RV,Rd,ja];right;obtain⟨hl,aE⟩:=jy ML;have hk:=k1.length;refine⟨_,0,len,sz,rfl,aaQ _,fun _=>f3,od (by omega) ?_ ⟩;refine dx.nr (vs:=c'.toList) (by omega) (fun j d v hd hv=>?_ ) (fun j v hv=>?_ )
     ·rcases aE j d hd with hc|⟨hc,rfl⟩
      ·obtain⟨v',fI,Ei⟩:=aV.get j k1 hc;rw[hv]at fI;simp only[aaC]at fI;subst fI;simp only[RV]at Ei;exact Rd.keeps f1.keeps _ _ Ei
      ·obtain⟨v',fI,Ei⟩:=aV.get j k1 hc;rw[hv]at fI;simp only[aaC]at fI;subst fI;simp only[RV]at Ei;subst Ei;simp[Rd]
     ·simp only[World.cell?,bV];simpa using hv
    ·cases he
   ·cases he
  |_=>simp[f_]at he
end
end Fw
