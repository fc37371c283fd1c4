/- Part Lj. -/
import Derived.Test.YthnflpoohleiaaaGreatDoorLi
set_option linter.unusedVariables false
set_option linter.unusedSimpArgs false
namespace Go.Px
noncomputable section
set_option maxRecDepth 100000
set_option maxHeartbeats 4000000
set_option synthInstance.maxHeartbeats 4000000
set_option synthInstance.maxSize 100000
instance (x):TW (q6d x):=⟨_,λa e=>by rw[zfK,<- e]⟩
instance(x):TW (qan x):=by delta qan qgz q8q;infer_instance
instance(x):TW (q80 x):=by delta q80 qdd;infer_instance
instance(x):TW (qcg x):=by delta qcg qe9 qgv;infer_instance
instance(x):TW (q2l x):=by delta q2l qea;infer_instance
instance(x):TW (q72 x):=by delta q72 qhb;infer_instance
instance(x):TW (qc4 x):=by delta qc4 qfm;infer_instance
instance(x):TW (qb7 x):=by delta qb7 qde qfq;infer_instance
instance(x):TW (q94 x):=by delta q94 qbw;infer_instance
instance(x):TW (qam x):=by delta qam qh0;infer_instance
instance(x):TW (q5y x):=by delta q5y q8u;infer_instance
instance(x):TW (qae x):=by delta qae qcr qf4;infer_instance
instance(x):TW (q3f x):=by delta q3f qds;infer_instance
instance(x):TW (q2y x):=by delta q2y q8b q1q;infer_instance
instance(x):TW (q52 x):=by delta q52 qbj;infer_instance
instance(x):TW (qao x):=by delta qao qep;infer_instance
instance(x):TW (q5r x):=by delta q5r qc5 q9f;infer_instance
instance(x):TW (q6p x):=by delta q6p qc6 q9g q9h;infer_instance
instance(x):TW (q8m x):=by delta q8m qdt;infer_instance
instance(x):TW (q7g x):=by delta q7g qcs;infer_instance
instance(x):TW (q77 x):=by delta q77 qeq qdb;infer_instance
instance(x):TW (qba x):=by delta qba qge;infer_instance
instance(x):TW (qbc x):=by delta qbc qhc;infer_instance
instance(x):TW (qd4 x):=by delta qd4 qek qc7;infer_instance
instance(x):TW (q5t x):=by delta q5t qdu;infer_instance
instance(x):TW (q89 x):=by delta q89 qer;infer_instance
instance(x):TW (q9i x):=by delta q9i qfi;infer_instance
instance(x):TW (qd5 x):=by delta qd5 qel qc8;infer_instance
instance(x):TW (q5u x):=by delta q5u qdv;infer_instance
instance(x):TW (qc9 x):=by delta qc9 qh1 qe6;infer_instance
instance(x):TW (q7v x):=by delta q7v qgf qdc;infer_instance
instance (x):TW (q2w x):=⟨_,λa e=>by rw[zdZ,<- e]⟩
instance(x):TW (q1h x):=by delta q1h q9y q7h;infer_instance
instance(x):TW (q1b x):=by delta q1b qdf q5z;infer_instance
instance(x):TW (q1f x):=by delta q1f qbx q54;infer_instance
instance(x):TW (q1e x):=by delta q1e q8v;infer_instance
instance(x):TW (q4p x):=by delta q4p qay q6f q59 qax q6g q4h;repeat(first | (with_reducible(first | refine TWb ?_ λ_=>?_|refine TWi ?_ ?_|refine TWe (λ_=>?_) λ_=>?_))|infer_instance)
instance(x):TW (q3d x):=by delta q3d q8w q5g;infer_instance
instance(x):TW (q2d x):=by delta q2d q9z;infer_instance
instance(x):TW (q4q x):=by delta q4q qaz q6h q6i q6j;infer_instance
instance(x):TW (q31 x):=by delta q31 qa0 q60;infer_instance
instance(x):TW (q3l x):=by delta q3l q82 q50;infer_instance
instance(x):TW (q3p x):=by delta q3p qdg;infer_instance
instance(x):TW (q2a x):=by delta q2a qby;infer_instance
instance(x):TW (q87 x):=by delta q87 qem;infer_instance
instance(x):TW (qch x):=by delta qch qeb q6v;infer_instance
instance(x):TW (q1r x):=by delta q1r qfn;infer_instance
instance(x):TW (q3q x):=by delta q3q qa1 q4w;infer_instance
instance(x):TW (q18 x):=by delta q18 qbz;infer_instance
instance(x):TW (q4x x):=by delta q4x q8z;infer_instance
instance(x):TW (q5k x):=by delta q5k qc0;infer_instance
instance(x):TW (q8r x):=by delta q8r qd1 q88;infer_instance
instance(x):TW (q1j x):=by delta q1j qb1;infer_instance
instance(x):TW (q6k x):=by delta q6k qa2 q7i;infer_instance
instance(x):TW (q26 x):=by delta q26 qa3;infer_instance
instance(x):TW (q2e x):=by delta q2e qa4;infer_instance
instance(x):TW (q3g x):=by delta q3g qb2;infer_instance
instance(x):TW (q55 x):=by delta q55 qbe;infer_instance
instance(x):TW (q49 x):=by delta q49 qca q7j;infer_instance
instance(x):TW (q25 x):=by delta q25 q8f q6o;infer_instance
instance{h}[∀x,TW (h x)](x):TW (q5o h x):=by delta q5o q74 q5l q2b;infer_instance
instance(k x):TW (q2q k x):=twk (λh t x=>inferInstance) (λ_=>rfl) (λ_ _=>rfl) k x
instance(x):TW (q47 x):=by delta q47;infer_instance
instance(x):TW (q81 x):=by delta q81 qfj;infer_instance
instance(x):TW (qbb x):=by delta qbb qho;infer_instance
instance(x):TW (q3e x):=by delta q3e qh2;infer_instance
instance(x):TW (qcq x):=by delta qcq qhp qej;infer_instance
instance(x):TW (q2z x):=by delta q2z qcz;infer_instance
instance(x):TW (q79 x):=by delta q79 qd0;infer_instance
instance{h}[∀x,TW (h x)](x):TW (q2t h x):=by delta q2t q5a;infer_instance
instance{h}[∀x,TW (h x)](x):TW (q28 h x):=by delta q28 q67;infer_instance
instance{h}[∀x,TW (h x)](x):TW (q70 h x):=by delta q70 q8p q8n;infer_instance
instance(k x):TW (q2x k x):=twk (λh t x=>inferInstance) (λ_=>rfl) (λ_ _=>rfl) k x
instance(x):TW (q9j x):=by delta q9j;infer_instance
instance(x):TW (q5e x):=by delta q5e qfk qe3;infer_instance
instance(x):TW (q40 x):=by delta q40 qb8;infer_instance
instance(x):TW (q6w x):=by delta q6w qdw;infer_instance
instance(x):TW (q62 x):=by delta q62 qct;infer_instance
instance(x):TW (q8a x):=by delta q8a qes q7k q7l;infer_instance
instance(x):TW (q1c x):=by delta q1c qaa;infer_instance
instance(x):TW (q4i x):=by delta q4i qab q63;infer_instance
instance(x):TW (q4j x):=by delta q4j qac q64;infer_instance
instance(x):TW (q2r x):=by delta q2r q8g q56;infer_instance
instance(x):TW (q5b x):=by delta q5b qa5;infer_instance
instance(x):TW (q1p x):=by delta q1p qa6;infer_instance
instance(x):TW (q3r x):=by delta q3r qa7 q7m;infer_instance
instance(x):TW (q32 x):=by delta q32 qa8 q4y;infer_instance
instance(x):TW (q3s x):=by delta q3s qa9;infer_instance
instance(x):TW (q33 x):=by delta q33 q8h q4b;infer_instance
instance(x):TW (q1k x):=by delta q1k q34 q5c;infer_instance
instance{h}[∀x,TW (h x)](x):TW (q5p h x):=by delta q5p q75 q5m q3w;infer_instance
instance(k x):TW (q35 k x):=twk (λh t x=>inferInstance) (λ_=>rfl) (λ_ _=>rfl) k x
instance(x):TW (q4z x):=by delta q4z;infer_instance
instance(x):TW (q24 x):=by delta q24 qec;infer_instance
instance(x):TW (q61 x):=by delta q61 qcu q73;infer_instance
instance(x):TW (q6u x):=by delta q6u qb0;infer_instance
instance(x):TW (q27 x):=by delta q27 q8x;infer_instance
instance{h}[∀x,TW (h x)](x):TW (q5q h x):=by delta q5q q76 q5h q5i q3v;infer_instance
instance(k x):TW (q2p k x):=twk (λh t x=>inferInstance) (λ_=>rfl) (λ_ _=>rfl) k x
instance(x):TW (q4v x):=by delta q4v;infer_instance
instance(x):TW (q2m x):=by delta q2m q8y q5j;infer_instance
instance(x):TW (q48 x):=by delta q48 q90 q3x q3y;infer_instance
instance(x):TW (q3z x):=by delta q3z q8i q57;infer_instance
instance(x):TW (q1s x):=by delta q1s q91 q5n;infer_instance
instance(x):TW (qaq x):=by delta qaq qce;infer_instance
instance(x):TW (q2g x):=by delta q2g q5s;infer_instance
instance(x):TW (q2i x):=by delta q2i qcd;infer_instance
instance(x):TW (q23 x):=by delta q23 qcc;infer_instance
instance(x):TW (q8o x):=by delta q8o qb4 q6l;infer_instance
instance(x):TW (q7q x):=by delta q7q q93;infer_instance
instance(x):TW (q2h x):=by delta q2h qd3;infer_instance
instance(x):TW (q7p x):=by delta q7p q92 q4o;infer_instance
instance(x):TW (qbd x):=by delta qbd qd2;infer_instance
instance(x):TW (q36 x):=by delta q36 qad;infer_instance
instance(x):TW (q1t x):=by delta q1t q7u;infer_instance
instance(x):TW (q1v x):=by delta q1v qbk;infer_instance
instance(x):TW (q4l x):=by delta q4l qbq;infer_instance
instance(x):TW (q4k x):=by delta q4k qbn;infer_instance
instance(x):TW (q65 x):=by delta q65 qcv;infer_instance
instance(x):TW (q7n x):=by delta q7n qbo q6y;infer_instance
instance(x):TW (q66 x):=by delta q66 qcw;infer_instance
instance(x):TW (q7o x):=by delta q7o qbp q6z;infer_instance
instance(x):TW (q3h x):=by delta q3h qb3;infer_instance
instance(x):TW (q16 x):=by delta q16 qbr q5v;infer_instance
instance(x):TW (q1l x):=by delta q1l qbl;infer_instance
instance(x):TW (q42 x):=by delta q42 qb5 q6m;infer_instance
instance(x):TW (q1o x):=by delta q1o qcb;infer_instance
instance(x):TW (q2j x):=by delta q2j q83 q41 q3a;repeat(first | (with_reducible(first | refine TWb ?_ λ_=>?_|refine TWi ?_ ?_|refine TWe (λ_=>?_) λ_=>?_))|infer_instance)
instance(x):TW (q68 x):=by delta q68 qbs q4r q3i;infer_instance
instance(x):TW (q3m x):=by delta q3m qcf q7r;infer_instance
instance(x):TW (q9k x):=by delta q9k qfl qc1;infer_instance
instance(x):TW (q1g x):=by delta q1g qbm q6x;infer_instance
instance(x):TW (q29 x):=by delta q29 qbt q4s q4t q3j;infer_instance
instance(x):TW (q22 x):=by delta q22 qcx;repeat(first | (with_reducible(first | refine TWb ?_ λ_=>?_|refine TWi ?_ ?_|refine TWe (λ_=>?_) λ_=>?_))|infer_instance)
theorem zuF:q22 ()=some true:=TW.run inferInstance jO
end
theorem zxJ x:zfG.F x=some true:=by rw[←qhj];exact zuB zuF x
end Go.Px
