/- Part Lj. -/
import Derived.Test.YtnkjgenigoecjaaGreatDoorLi
set_option linter.unusedVariables false
set_option linter.unusedSimpArgs false
namespace Go.Px
noncomputable section
set_option maxRecDepth 100000
set_option maxHeartbeats 4000000
set_option synthInstance.maxHeartbeats 4000000
set_option synthInstance.maxSize 100000
instance (x):TW (q5v x):=⟨_,λa e=>by rw[zfM,<- e]⟩
instance(x):TW (q9z x):=by delta q9z qh0 q82;infer_instance
instance(x):TW (q7c x):=by delta q7c qcq;infer_instance
instance(x):TW (qbp x):=by delta qbp qdr qgr;infer_instance
instance(x):TW (q2c x):=by delta q2c qds;infer_instance
instance(x):TW (q6i x):=by delta q6i qhd;infer_instance
instance(x):TW (qbh x):=by delta qbh qfg;infer_instance
instance(x):TW (qah x):=by delta qah qcr qfk;infer_instance
instance(x):TW (q8f x):=by delta q8f qb9;infer_instance
instance(x):TW (q9y x):=by delta q9y qh1;infer_instance
instance(x):TW (q5g x):=by delta q5g q87;infer_instance
instance(x):TW (q9o x):=by delta q9o qc2 qex;infer_instance
instance(x):TW (q36 x):=by delta q36 qd6;infer_instance
instance(x):TW (q2q x):=by delta q2q q7n q1n;infer_instance
instance(x):TW (q4l x):=by delta q4l qaw;infer_instance
instance(x):TW (qa0 x):=by delta qa0 qef;infer_instance
instance(x):TW (q5a x):=by delta q5a qbi q8q;infer_instance
instance(x):TW (q65 x):=by delta q65 qbj q8r q8s;infer_instance
instance(x):TW (q7z x):=by delta q7z qd7;infer_instance
instance(x):TW (q6w x):=by delta q6w qc3;infer_instance
instance(x):TW (q6n x):=by delta q6n qeg qco;infer_instance
instance(x):TW (qam x):=by delta qam qg8;infer_instance
instance(x):TW (qao x):=by delta qao qhe;infer_instance
instance(x):TW (qcf x):=by delta qcf qe4 qbk;infer_instance
instance(x):TW (q5b x):=by delta q5b qd8;infer_instance
instance(x):TW (q7l x):=by delta q7l qeh;infer_instance
instance(x):TW (q8t x):=by delta q8t qfc;infer_instance
instance(x):TW (qcg x):=by delta qcg qe5 qbl;infer_instance
instance(x):TW (q5c x):=by delta q5c qd9;infer_instance
instance(x):TW (qbm x):=by delta qbm qh2 qdn;infer_instance
instance(x):TW (q77 x):=by delta q77 qg9 qcp;infer_instance
instance (x):TW (q2o x):=⟨_,λa e=>by rw[zdW,<- e]⟩
instance(x):TW (q1f x):=by delta q1f q99 q6x;infer_instance
instance(x):TW (q1a x):=by delta q1a qcs q5h;infer_instance
instance(x):TW (q1e x):=by delta q1e qba q4n;infer_instance
instance(x):TW (q1d x):=by delta q1d q88;infer_instance
instance(x):TW (q4b x):=by delta q4b qaa q5x q4s qa9 q5y q45;repeat(first | (with_reducible(first | refine TWb ?_ λ_=>?_|refine TWi ?_ ?_|refine TWe (λ_=>?_) λ_=>?_))|infer_instance)
instance(x):TW (q34 x):=by delta q34 q89 q4z;infer_instance
instance(x):TW (q28 x):=by delta q28 q9a;infer_instance
instance(x):TW (q4c x):=by delta q4c qab q5z q60 q61;infer_instance
instance(x):TW (q2t x):=by delta q2t q9b q5i;infer_instance
instance(x):TW (q3a x):=by delta q3a q7e q4j;infer_instance
instance(x):TW (q3d x):=by delta q3d qct;infer_instance
instance(x):TW (q25 x):=by delta q25 qbb;infer_instance
instance(x):TW (q7i x):=by delta q7i qe6;infer_instance
instance(x):TW (qbq x):=by delta qbq qdt q6b;infer_instance
instance(x):TW (q1o x):=by delta q1o qfh;infer_instance
instance(x):TW (q3e x):=by delta q3e q9c q4f;infer_instance
instance(x):TW (q17 x):=by delta q17 qbc;infer_instance
instance(x):TW (q4g x):=by delta q4g q8c;infer_instance
instance(x):TW (q53 x):=by delta q53 qbd;infer_instance
instance(x):TW (q83 x):=by delta q83 qce q7j;infer_instance
instance(x):TW (q1h x):=by delta q1h qad;infer_instance
instance(x):TW (q62 x):=by delta q62 q9d q6y;infer_instance
instance(x):TW (q20 x):=by delta q20 q9e;infer_instance
instance(x):TW (q29 x):=by delta q29 q9f;infer_instance
instance(x):TW (q37 x):=by delta q37 qae;infer_instance
instance(x):TW (q4o x):=by delta q4o qap;infer_instance
instance(x):TW (q3w x):=by delta q3w qbn q6z;infer_instance
instance(x):TW (q1z x):=by delta q1z q7r q64;infer_instance
instance{h}[∀x,TW (h x)](x):TW (q57 h x):=by delta q57 q6k q54 q26;infer_instance
instance(k x):TW (q2i k x):=twk (λh t x=>inferInstance) (λ_=>rfl) (λ_ _=>rfl) k x
instance(x):TW (q3u x):=by delta q3u;infer_instance
instance(x):TW (q7d x):=by delta q7d qfd;infer_instance
instance(x):TW (qan x):=by delta qan qhq;infer_instance
instance(x):TW (q35 x):=by delta q35 qh3;infer_instance
instance(x):TW (qc1 x):=by delta qc1 qhr qe3;infer_instance
instance(x):TW (q2r x):=by delta q2r qcc;infer_instance
instance(x):TW (q6p x):=by delta q6p qcd;infer_instance
instance{h}[∀x,TW (h x)](x):TW (q2l h x):=by delta q2l q4t;infer_instance
instance{h}[∀x,TW (h x)](x):TW (q23 h x):=by delta q23 q5p;infer_instance
instance{h}[∀x,TW (h x)](x):TW (q6g h x):=by delta q6g q81 q80;infer_instance
instance(k x):TW (q2p k x):=twk (λh t x=>inferInstance) (λ_=>rfl) (λ_ _=>rfl) k x
instance(x):TW (q8u x):=by delta q8u;infer_instance
instance(x):TW (q4x x):=by delta q4x qfe qdk;infer_instance
instance(x):TW (q3p x):=by delta q3p qai;infer_instance
instance(x):TW (q6c x):=by delta q6c qda;infer_instance
instance(x):TW (q5k x):=by delta q5k qc4;infer_instance
instance(x):TW (q7m x):=by delta q7m qei q70 q71;infer_instance
instance(x):TW (q1b x):=by delta q1b q9l;infer_instance
instance(x):TW (q46 x):=by delta q46 q9m q5l;infer_instance
instance(x):TW (q47 x):=by delta q47 q9n q5m;infer_instance
instance(x):TW (q2j x):=by delta q2j q7s q4p;infer_instance
instance(x):TW (q4u x):=by delta q4u q9g;infer_instance
instance(x):TW (q1m x):=by delta q1m q9h;infer_instance
instance(x):TW (q3f x):=by delta q3f q9i q72;infer_instance
instance(x):TW (q2u x):=by delta q2u q9j q4h;infer_instance
instance(x):TW (q3g x):=by delta q3g q9k;infer_instance
instance(x):TW (q2v x):=by delta q2v q7t q3y;infer_instance
instance(x):TW (q1i x):=by delta q1i q2w q4v;infer_instance
instance{h}[∀x,TW (h x)](x):TW (q58 h x):=by delta q58 q6l q55 q3k;infer_instance
instance(k x):TW (q2x k x):=twk (λh t x=>inferInstance) (λ_=>rfl) (λ_ _=>rfl) k x
instance(x):TW (q4i x):=by delta q4i;infer_instance
instance(x):TW (q1y x):=by delta q1y qdu;infer_instance
instance(x):TW (q5j x):=by delta q5j qc5 q6j;infer_instance
instance(x):TW (q6a x):=by delta q6a qac;infer_instance
instance(x):TW (q21 x):=by delta q21 q8a;infer_instance
instance{h}[∀x,TW (h x)](x):TW (q59 h x):=by delta q59 q6m q50 q51 q3j;infer_instance
instance(k x):TW (q2h k x):=twk (λh t x=>inferInstance) (λ_=>rfl) (λ_ _=>rfl) k x
instance(x):TW (q4e x):=by delta q4e;infer_instance
instance(x):TW (q2d x):=by delta q2d q8b q52;infer_instance
instance(x):TW (q3v x):=by delta q3v q8d q3l q3m;infer_instance
instance(x):TW (q3n x):=by delta q3n q7u q4q;infer_instance
instance(x):TW (q1x x):=by delta q1x q8e q56;infer_instance
instance(x):TW (qch x):=by delta qch qe7;infer_instance
instance(x):TW (q84 x):=by delta q84 qer;infer_instance
instance(x):TW (qa2 x):=by delta qa2 qe8;infer_instance
instance(x):TW (q7k x):=by delta q7k qe9;infer_instance
instance(x):TW (qb5 x):=by delta qb5 qdb qga;infer_instance
instance(x):TW (q9p x):=by delta q9p qc6;infer_instance
instance(x):TW (qaq x):=by delta qaq qes;infer_instance
instance(x):TW (q9q x):=by delta q9q qc7 qey;infer_instance
instance(x):TW (qdc x):=by delta qdc qet;infer_instance
instance(x):TW (qaj x):=by delta qaj qcu;infer_instance
instance(x):TW (q5q x):=by delta q5q qak;infer_instance
instance(x):TW (q1q x):=by delta q1q qax;infer_instance
instance(x):TW (q31 x):=by delta q31 qb3;infer_instance
instance(x):TW (q48 x):=by delta q48 qb0;infer_instance
instance(x):TW (q5n x):=by delta q5n qc8;infer_instance
instance(x):TW (q73 x):=by delta q73 qb1 q6e;infer_instance
instance(x):TW (q5o x):=by delta q5o qc9;infer_instance
instance(x):TW (q74 x):=by delta q74 qb2 q6f;infer_instance
instance(x):TW (q38 x):=by delta q38 qaf;infer_instance
instance(x):TW (q1l x):=by delta q1l qb4 q5d;infer_instance
instance(x):TW (q24 x):=by delta q24 qay;infer_instance
instance(x):TW (qb6 x):=by delta qb6 qdd qgb;infer_instance
instance(x):TW (q2n x):=by delta q2n qbo;infer_instance
instance(x):TW (q7v x):=by delta q7v qar qea qeb;repeat(first | (with_reducible(first | refine TWb ?_ λ_=>?_|refine TWi ?_ ?_|refine TWe (λ_=>?_) λ_=>?_))|infer_instance)
instance(x):TW (qbr x):=by delta qbr qdv qgs qgt;infer_instance
instance(x):TW (qci x):=by delta qci qec qh4;infer_instance
instance(x):TW (q8v x):=by delta q8v qff qbe;infer_instance
instance(x):TW (q2e x):=by delta q2e qaz q6d;infer_instance
instance(x):TW (qbs x):=by delta qbs qdw qgu qgv qgw;infer_instance
instance(x):TW (q22 x):=by delta q22 qca;repeat(first | (with_reducible(first | refine TWb ?_ λ_=>?_|refine TWi ?_ ?_|refine TWe (λ_=>?_) λ_=>?_))|infer_instance)
theorem zvm:q22 ()=some true:=TW.run inferInstance (by kernel_rfl)
end
theorem zyO x:zfI.F x=some true:=by rw[←qhl];exact zvi zvm x
end Go.Px
